/- twinkeepref5.C).Num, twinkeepref5.PutBlock, twinkeepref5.C).block, twinkeepref5.GetBlock -/
import Derived.Test.YtpamjfbdgaamoaaW1
import Derived.Test.YtpamjfbdgaamoaaW6
import Derived.Test.YtpamjfbdgaamoaaBA
namespace Go.Proofs.Ytpamjfbdgaamoaa
open Go.RowKit

theorem c_cNum {w0 w : World} {L : List Item} (g_c : Nat) (b : List UInt8) (at_ : Int) (bad : Bool) (hl : b.length ≤ 1000000000) (hst : St w0 w (.blk g_c 66 #[(.string (str b)), (.int .i64 at_), (.bool bad)] :: L)) :
    Calls Try.prog 41 #[(.pointer (some ⟨g_c, 0, none⟩))] w fun e w' => e = .returned (.int .u64 (rnum bad b at_)) ∧ St w0 w' (.blk g_c 66 #[(.string (str b)), (.int .i64 (rto bad b at_)), (.bool (rbad bad b at_))] :: L) := by
  refine calls_E (n := 33) (ts := [2]) Try.func41 rfl rfl rfl (by simp) ?_
  refine cE_seq ?_
  refine cE_region rfl ?_
  refine s_cons (op_assign (.int .u64 0) rfl ?_)
  refine s_nil ?_
  refine then_n ?_
  refine cE_seq ?_
  refine cE_seq ?_
  refine cE_region rfl ?_
  refine s_cons (op_move (.pointer (some ⟨g_c, 0, none⟩)) rfl ?_)
  refine s_cons (op_nilCheck rfl ?_)
  refine s_cons (op_fieldAddr (s := 0) Try.underlying66 rfl rfl Try.sizeOf4 rfl ?_)
  refine s_cons (op_load1 (u := (.bool bad)) Try.isAgg4 rfl ((hst.cell 0 rfl).drop 2) ?_)
  refine s_nil ?_
  refine then_n ?_
  rcases Bool.eq_false_or_eq_true bad with b1 | b1
  · refine cE_cond true (congrArg Value.bool b1) (fun _ => ?_) (fun h => by cases h)
    refine cE_seq ?_
    refine cE_region rfl ?_
    refine s_cons (op_assign (.int .u64 0) rfl ?_)
    refine s_nil ?_
    refine then_n ?_
    refine cE_ret ?_
    refine then_r ?_
    refine post_r _ (res1 (v := (.int .u64 0)) rfl) ?_
    have e2 : ((.int .i64 at_) : Value) = (.int .i64 (rto bad b at_)) := (congrArg (Value.int .i64) (show at_ = (rto bad b at_) from by first | rfl | (simp [rnum, rto, rbad, b1]; done)))
    replace hst : St w0 w (.blk g_c 66 #[(.string (str b)), (.int .i64 (rto bad b at_)), (.bool bad)] :: L) := by rw [e2] at hst; exact hst
    have e3 : ((.bool bad) : Value) = (.bool (rbad bad b at_)) := (congrArg Value.bool (show bad = (rbad bad b at_) from by first | rfl | (simp [rnum, rto, rbad, b1]; done)))
    replace hst : St w0 w (.blk g_c 66 #[(.string (str b)), (.int .i64 (rto bad b at_)), (.bool (rbad bad b at_))] :: L) := by rw [e3] at hst; exact hst
    exact ⟨(retv1 (congrArg (Value.int .u64) (show 0 = (rnum bad b at_) from by first | rfl | (simp [rnum, rto, rbad, b1]; done)))), hst.sub (.cons_cons _ (List.Sublist.refl _))⟩
  refine cE_cond false (congrArg Value.bool b1) (fun h => by cases h) (fun _ => ?_)
  refine cE_skip ?_
  refine then_n ?_
  refine cE_seq ?_
  refine cE_regionL hst [[(0, none)], [(11, some 0)], [(12, some 1)], [(13, some 2)], [(0, none)], [(15, some 4)], [(16, some 5)], [(17, some 6)], [(14, some 3), (18, some 7)], [(19, some 8)], [(10, some 9)], [(10, some 9)], [(10, some 9)], [(20, some 10)], [(21, some 11)], [(22, some 12)]] [(rEq (.pointer (some ⟨g_c, 0, none⟩))), (rEq (.pointer (some ⟨g_c, 0, none⟩))), (rEq (.pointer (some ⟨g_c, (0 + 0), none⟩))), (rEq (.string (str b))), (rEq (.pointer (some ⟨g_c, 0, none⟩))), (rEq (.pointer (some ⟨g_c, 0, none⟩))), (rEq (.pointer (some ⟨g_c, (0 + 1), none⟩))), (rEq (.int .i64 at_)), (rEq (.tuple #[(.int .u64 ((get b at_).1)), (.int .i64 ((get b at_).2.1)), (.int .i64 ((get b at_).2.2))])), (rEq (.tuple #[(.int .u64 ((get b at_).1)), (.int .i64 ((get b at_).2.1)), (.int .i64 ((get b at_).2.2))])), (rEq (.int .u64 ((get b at_).1))), (rEq (.int .i64 ((get b at_).2.1))), (rEq (.int .i64 ((get b at_).2.2))), (rEq (.int .u64 ((get b at_).1))), (rEq (.int .i64 ((get b at_).2.1))), (rEq (.int .i64 ((get b at_).2.2)))] (by kernel_rfl) rfl (by kernel_rfl) ⟨sEq, sEq, sEq, sEq, sEq, sEq, sEq, sEq, sEq, sEq, sEq, sEq, sEq, sEq, sEq, sEq, trivial⟩ ⟨?_, ?_, ?_, ?_, ?_, ?_, ?_, ?_, ?_, ?_, ?_, ?_, ?_, ?_, ?_, ?_, trivial⟩ ?_
  · rintro ρ5 w6 hj7 ⟨f0, _⟩
    have hst := hj7.2
    exact go_plain (op_move (.pointer (some ⟨g_c, 0, none⟩)) (f0.trans rfl) (kS hj7 rfl))
  · rintro ρ8 w9 hj10 ⟨f11, _⟩
    have hst := hj10.2
    exact go_plain (op_nilCheck f11 (kS hj10 rfl))
  · rintro ρ11 w12 hj13 ⟨f12, _⟩
    have hst := hj13.2
    exact go_plain (op_fieldAddr (s := 0) Try.underlying66 rfl rfl Try.sizeOf9 f12 (kS hj13 rfl))
  · rintro ρ14 w15 hj16 ⟨f13, _⟩
    have hst := hj16.2
    exact go_plain (op_load1 (u := (.string (str b))) Try.isAgg9 f13 (hst.cell 0 rfl) (kS hj16 rfl))
  · rintro ρ17 w18 hj19 ⟨f0, _⟩
    have hst := hj19.2
    exact go_plain (op_move (.pointer (some ⟨g_c, 0, none⟩)) (f0.trans rfl) (kS hj19 rfl))
  · rintro ρ20 w21 hj22 ⟨f15, _⟩
    have hst := hj22.2
    exact go_plain (op_nilCheck f15 (kS hj22 rfl))
  · rintro ρ23 w24 hj25 ⟨f16, _⟩
    have hst := hj25.2
    exact go_plain (op_fieldAddr (s := 0) Try.underlying66 rfl rfl Try.sizeOf3 f16 (kS hj25 rfl))
  · rintro ρ26 w27 hj28 ⟨f17, _⟩
    have hst := hj28.2
    exact go_plain (op_load1 (u := (.int .i64 at_)) Try.isAgg3 f17 ((hst.cell 0 rfl).drop 1) (kS hj28 rfl))
  · rintro ρ29 w30 hj31 ⟨f14, f18, _⟩
    have hst := hj31.2
    refine go_plain (op_call Try.call49 (evs_cons (v := (.string (str b))) f14 (evs_cons (v := (.int .i64 at_)) f18 evs_nil)) (c_rGet (w0 := w30) (b := b) (at_ := at_) (hl := (by omega))) ?_)
    rintro _ w32 ⟨rfl, hcall⟩
    refine ⟨_, rfl, ?_⟩
    exact kD hj31 hcall rfl
  · rintro ρ33 w34 hj35 ⟨f19, _⟩
    have hst := hj35.2
    exact go_plain (op_move (.tuple #[(.int .u64 ((get b at_).1)), (.int .i64 ((get b at_).2.1)), (.int .i64 ((get b at_).2.2))]) f19 (kS hj35 rfl))
  · rintro ρ36 w37 hj38 ⟨f10, _⟩
    have hst := hj38.2
    exact go_plain (op_extract (.int .u64 ((get b at_).1)) f10 rfl (kS hj38 rfl))
  · rintro ρ39 w40 hj41 ⟨f10, _⟩
    have hst := hj41.2
    exact go_plain (op_extract (.int .i64 ((get b at_).2.1)) f10 rfl (kS hj41 rfl))
  · rintro ρ42 w43 hj44 ⟨f10, _⟩
    have hst := hj44.2
    exact go_plain (op_extract (.int .i64 ((get b at_).2.2)) f10 rfl (kS hj44 rfl))
  · rintro ρ45 w46 hj47 ⟨f20, _⟩
    have hst := hj47.2
    exact go_plain (op_assign (.int .u64 ((get b at_).1)) f20 (kS hj47 rfl))
  · rintro ρ48 w49 hj50 ⟨f21, _⟩
    have hst := hj50.2
    exact go_plain (op_assign (.int .i64 ((get b at_).2.1)) f21 (kS hj50 rfl))
  · rintro ρ51 w52 hj53 ⟨f22, _⟩
    have hst := hj53.2
    exact go_plain (op_assign (.int .i64 ((get b at_).2.2)) f22 (kS hj53 rfl))
  intro ρ54 w55 hbw55 hst hRw55 hkw55
  have uw55_0 : ρ54 0 = (.pointer (some ⟨g_c, 0, none⟩)) := (hkw55 0 rfl).trans rfl
  have uw55_2 : ρ54 2 = (.int .u64 0) := (hkw55 2 rfl).trans rfl
  have uw55_6 : ρ54 6 = (.pointer (some ⟨g_c, 0, none⟩)) := (hkw55 6 rfl).trans rfl
  have uw55_7 : ρ54 7 = (.pointer (some ⟨g_c, 0, none⟩)) := (hkw55 7 rfl).trans rfl
  have uw55_8 : ρ54 8 = (.pointer (some ⟨g_c, (0 + 2), none⟩)) := (hkw55 8 rfl).trans rfl
  have uw55_9 : ρ54 9 = (.bool bad) := (hkw55 9 rfl).trans rfl
  have uw55_3 : ρ54 3 = (.int .u64 ((get b at_).1)) := hRw55 13 3 rfl
  have uw55_4 : ρ54 4 = (.int .i64 ((get b at_).2.1)) := hRw55 14 4 rfl
  have uw55_5 : ρ54 5 = (.int .i64 ((get b at_).2.2)) := hRw55 15 5 rfl
  refine then_n ?_
  refine cE_seq ?_
  refine cE_region rfl ?_
  refine s_cons (op_move (.pointer (some ⟨g_c, 0, none⟩)) uw55_0 ?_)
  refine s_cons (op_move (.pointer (some ⟨g_c, 0, none⟩)) uw55_0 ?_)
  refine s_cons (op_move (.int .i64 ((get b at_).2.1)) uw55_4 ?_)
  refine s_cons (op_move (.int .i64 ((get b at_).2.2)) uw55_5 ?_)
  refine s_cons (op_neq (k := .i64) (a := (get b at_).2.2) (b := 0) rfl rfl ?_)
  refine s_cons (op_nilCheck rfl ?_)
  refine s_cons (op_fieldAddr (s := 0) Try.underlying66 rfl rfl Try.sizeOf3 rfl ?_)
  refine s_cons0 (op_store1 hst 0 rfl Try.sizeOf3 rfl rfl rfl (show 1 < 3 from by decide) (fun w56 hst => ?_))
  replace hst : St w0 w56 (.blk g_c 66 #[(.string (str b)), (.int .i64 ((get b at_).2.1)), (.bool bad)] :: L) := hst
  refine s_cons (op_nilCheck rfl ?_)
  refine s_cons (op_fieldAddr (s := 0) Try.underlying66 rfl rfl Try.sizeOf4 rfl ?_)
  refine s_cons0 (op_store1 hst 0 rfl Try.sizeOf4 rfl rfl rfl (show 2 < 3 from by decide) (fun w57 hst => ?_))
  replace hst : St w0 w57 (.blk g_c 66 #[(.string (str b)), (.int .i64 ((get b at_).2.1)), (.bool (!decide (((get b at_).2.2) = 0)))] :: L) := hst
  refine s_nil ?_
  refine then_n ?_
  refine cE_seq ?_
  refine cE_region rfl ?_
  refine s_cons (op_move (.int .u64 ((get b at_).1)) uw55_3 ?_)
  refine s_cons (op_assign (.int .u64 ((get b at_).1)) rfl ?_)
  refine s_nil ?_
  refine then_n ?_
  refine cE_ret ?_
  refine post_r _ (res1 (v := (.int .u64 ((get b at_).1))) rfl) ?_
  have e58 : ((.int .i64 ((get b at_).2.1)) : Value) = (.int .i64 (rto bad b at_)) := (congrArg (Value.int .i64) (show (get b at_).2.1 = (rto bad b at_) from by first | rfl | (simp [rnum, rto, rbad, b1]; done)))
  replace hst : St w0 w57 (.blk g_c 66 #[(.string (str b)), (.int .i64 (rto bad b at_)), (.bool (!decide (((get b at_).2.2) = 0)))] :: L) := by rw [e58] at hst; exact hst
  have e59 : ((.bool (!decide (((get b at_).2.2) = 0))) : Value) = (.bool (rbad bad b at_)) := (congrArg Value.bool (show (!decide (((get b at_).2.2) = 0)) = (rbad bad b at_) from by first | rfl | (simp [rnum, rto, rbad, b1]; done)))
  replace hst : St w0 w57 (.blk g_c 66 #[(.string (str b)), (.int .i64 (rto bad b at_)), (.bool (rbad bad b at_))] :: L) := by rw [e59] at hst; exact hst
  exact ⟨(retv1 (congrArg (Value.int .u64) (show (get b at_).1 = (rnum bad b at_) from by first | rfl | (simp [rnum, rto, rbad, b1]; done)))), hst.sub (.cons_cons _ (List.Sublist.refl _))⟩

set_option maxHeartbeats 2000000 in
theorem c_rPutBlock (w0 : World) (v_l : Value) (l : List Sample) (h_l : Sl w0 sampE v_l l) (hl : ∀ s ∈ l, s.ok) :
    Calls Try.prog 10 #[v_l] w0 fun e w' => e = .returned (.tuple #[(.string (str ((encS l).1))), (.int .i64 ((encS l).2))]) ∧ St w0 w' [] := by
  refine calls_E (n := 84) (ts := [2, 3]) Try.func10 rfl rfl rfl (by simp) ?_
  have hst := St.start w0
  refine cE_seq ?_
  refine cE_region rfl ?_
  refine s_cons (op_assign (.string (str ([] : List UInt8))) rfl ?_)
  refine s_cons (op_assign (.int .i64 0) rfl ?_)
  refine s_nil ?_
  refine then_n ?_
  refine cE_seq ?_
  refine cE_seq ?_
  refine cE_region rfl ?_
  refine s_cons (op_move v_l rfl ?_)
  refine s_cons (op_call Try.call24 (evs_cons (v := v_l) rfl evs_nil) (c_rRising (w0 := w0) (v_l := v_l) (l := l) (h_l := (h_l.below hst.below)) (hl := (by omega))) ?_)
  rintro _ w60 ⟨rfl, hcall⟩
  refine ⟨_, rfl, ?_⟩
  have hst : St w0 w60 [] := hst.call hcall
  refine s_cons (op_not (b := risingA l) rfl ?_)
  refine s_cons (op_move (.bool (!(risingA l))) rfl ?_)
  rcases Bool.eq_false_or_eq_true (risingA l) with b61 | b61
  · have hri := b61
    have htr := rising_tR hri
    refine s_yes 12 rfl (congrArg Value.bool (congrArg (! ·) b61)) (op_move v_l rfl ?_)
    refine s_yes 12 rfl (congrArg Value.bool (congrArg (! ·) b61)) (op_len (E := sampE) (xs := l) Try.underlying22 rfl h_l ?_)
    refine s_yes 12 rfl (congrArg Value.bool (congrArg (! ·) b61)) (op_gtr (k := .i64) (a := (l.length : Int)) (b := 64) rfl rfl ?_)
    refine s_cons (op_pick_f (.bool (decide (64 < (l.length : Int)))) (congrArg Value.bool (congrArg (! ·) b61)) rfl ?_)
    refine s_nil ?_
    refine then_n ?_
    rcases Bool.eq_false_or_eq_true (decide (64 < (l.length : Int))) with b62 | b62
    · have c63 : 64 < (l.length : Int) := of_decide_eq_true b62
      refine cE_cond true (congrArg Value.bool b62) (fun _ => ?_) (fun h => by cases h)
      refine cE_seq ?_
      refine cE_region rfl ?_
      refine s_cons (op_assign (.string (str ([] : List UInt8))) rfl ?_)
      refine s_cons (op_assign (.int .i64 1) rfl ?_)
      refine s_nil ?_
      refine then_n ?_
      refine cE_ret ?_
      refine then_r ?_
      refine post_r _ (res2 (v := (.string (str ([] : List UInt8)))) rfl (x := (.int .i64 1)) rfl) ?_
      exact ⟨(retv2 (congrArg (fun l => Value.string (str l)) (show ([] : List UInt8) = (encS l).1 from by first | rw [encS_no (Or.inl (by assumption))] | rw [encS_no (Or.inr (by omega))] | (rw [encS_yes hok]; done) | (rw [encS_yes hok]; show _ = putS l; rw [hp, restS_end (by omega), List.append_nil]))) (congrArg (Value.int .i64) (show 1 = (encS l).2 from by first | rw [encS_no (Or.inl (by assumption))] | rw [encS_no (Or.inr (by omega))] | (rw [encS_yes hok]; done) | (rw [encS_yes hok]; show _ = putS l; rw [hp, restS_end (by omega), List.append_nil])))), hst.bare⟩
    have c64 : ¬ (64 < (l.length : Int)) := of_decide_eq_false b62
    refine cE_cond false (congrArg Value.bool b62) (fun h => by cases h) (fun _ => ?_)
    refine cE_skip ?_
    refine then_n ?_
    refine cE_seq ?_
    have hok := okS_iff.2 ⟨hri, (by omega : l.length ≤ 64)⟩
    have hp0 := put_length (l.length : Int)
    refine cE_region rfl ?_
    refine s_cons (op_move v_l rfl ?_)
    refine s_cons (op_len (E := sampE) (xs := l) Try.underlying22 rfl h_l ?_)
    refine s_cons (op_conv (k := .i64) (a := (l.length : Int)) (l.length : Int) Try.underlying54 (by rw [Try.underlying3]; rfl) rfl (xu64 (by omega) (by omega)) ?_)
    refine s_cons (op_call Try.call25 (evs_cons (v := (.int .u64 (l.length : Int))) rfl evs_nil) (c_rPut (w0 := w60) (n := (l.length : Int)) (h0 := (by omega)) (h1 := (by omega))) ?_)
    rintro _ w65 ⟨rfl, hcall⟩
    refine ⟨_, rfl, ?_⟩
    have hst : St w0 w65 [] := hst.call hcall
    refine s_cons (op_assign (.string (str (put (l.length : Int)))) rfl ?_)
    refine s_nil ?_
    refine then_n ?_
    refine cE_seq ?_
    refine cE_region rfl ?_
    refine s_cons (op_assign (.int .i64 0) rfl ?_)
    refine s_nil ?_
    refine then_n ?_
    refine cE_seq ?_
    refine cE_seq ?_
    refine cE_region rfl ?_
    refine s_cons (op_assign (.int .i64 0) rfl ?_)
    refine s_nil ?_
    refine then_n ?_
    refine cE_block ?_
    refine cE_loop (fun (m : Nat) (ρ : Env) (w : World) => ∃ (done : List UInt8) (i : Nat) (st : Int), m = l.length - i ∧ ρ 0 = v_l ∧ ρ 2 = (.string (str ([] : List UInt8))) ∧ ρ 3 = (.int .i64 0) ∧ ρ 4 = (.string (str done)) ∧ ρ 6 = (.int .i64 (i : Int)) ∧ ρ 5 = (.int .i64 st) ∧ St w0 w [] ∧ (i ≤ l.length) ∧ (i ≠ 0 ∨ st = 0) ∧ (-1099511627776 ≤ st ∧ st ≤ 1099511627776) ∧ (done.length ≤ 10 + 20 * i) ∧ (putS l = done ++ restS l i st)) id _ ⟨(put (l.length : Int)), 0, 0, rfl, rfl, rfl, rfl, rfl, (congrArg (Value.int .i64) (show 0 = _ from by omega)), rfl, hst, (by omega), (by omega), (by omega), (by first | omega | (simp; omega)), (by first | rfl | (rw [hp, restS_first0 (by omega) (by omega), show st = 0 from (by omega)]; simp; done) | (rw [hp, restS_next (by omega) (by omega)]; simp; done))⟩ ?_
    rintro m67 ρ68 w69 ⟨done, i, st, hm67, q66_0, q66_2, q66_3, q66_4, q66_6, q66_5, hst, hi, hs0, hsr, hdl, hp⟩
    have hlen := h_l.len
    refine cE_seq ?_
    refine cE_seq ?_
    refine cE_region rfl ?_
    refine s_cons (op_move (.int .i64 (i : Int)) q66_6 ?_)
    refine s_cons (op_move v_l q66_0 ?_)
    refine s_cons (op_len (E := sampE) (xs := l) Try.underlying22 rfl h_l ?_)
    refine s_cons (op_lss (k := .i64) (a := (i : Int)) (b := (l.length : Int)) rfl rfl ?_)
    refine s_nil ?_
    refine then_n ?_
    rcases Bool.eq_false_or_eq_true (decide ((i : Int) < (l.length : Int))) with b70 | b70
    · have c71 : (i : Int) < (l.length : Int) := of_decide_eq_true b70
      refine cE_cond true (congrArg Value.bool b70) (fun _ => ?_) (fun h => by cases h)
      refine cE_skip ?_
      refine then_n ?_
      refine cE_seq ?_
      refine cE_block ?_
      refine cE_seq ?_
      refine cE_seq ?_
      refine cE_region rfl ?_
      refine s_cons (op_move (.int .i64 (i : Int)) q66_6 ?_)
      refine s_cons (op_eql (k := .i64) (a := (i : Int)) (b := 0) rfl rfl ?_)
      refine s_nil ?_
      refine then_n ?_
      rcases Bool.eq_false_or_eq_true (decide ((i : Int) = 0)) with b72 | b72
      · have c73 : (i : Int) = 0 := of_decide_eq_true b72
        refine cE_cond true (congrArg Value.bool b72) (fun _ => ?_) (fun h => by cases h)
        refine cE_seq ?_
        have ht := htr _ (List.getElem_mem (show 0 < l.length by omega))
        have hv := (hl _ (List.getElem_mem (show 0 < l.length by omega))).2
        have hz := zig_r hv
        have q1 := put_length (l[0]'(by omega)).T
        have q2 := put_length (zig (l[0]'(by omega)).V)
        refine cE_regionL hst [[(4, none)], [(0, none)], [(30, some 1)], [(31, some 2)], [(32, some 3)], [(33, some 4)], [(34, some 5)], [(29, some 0), (35, some 6)], [(0, none)], [(37, some 8)], [(38, some 9)], [(39, some 10)], [(40, some 11)], [(41, some 12)], [(36, some 7), (42, some 13)], [(43, some 14)]] [(rEq (.string (str done))), (rEq v_l), (rPt [(.int .i64 ((l[0]'(by first | omega | (simp; omega) | (simp; done))).T)), (.int .i64 ((l[0]'(by first | omega | (simp; omega) | (simp; done))).V))]), (rPt [(.int .i64 ((l[0]'(by first | omega | (simp; omega) | (simp; done))).T)), (.int .i64 ((l[0]'(by first | omega | (simp; omega) | (simp; done))).V))]), (rEq (.int .i64 ((l[0]'(by first | omega | (simp; omega) | (simp; done))).T))), (rEq (.int .u64 ((l[0]'(by first | omega | (simp; omega) | (simp; done))).T))), (rEq (.string (str (put ((l[0]'(by first | omega | (simp; omega) | (simp; done))).T))))), (rEq (.string (str (done ++ (put ((l[0]'(by first | omega | (simp; omega) | (simp; done))).T)))))), (rEq v_l), (rPt [(.int .i64 ((l[0]'(by first | omega | (simp; omega) | (simp; done))).T)), (.int .i64 ((l[0]'(by first | omega | (simp; omega) | (simp; done))).V))]), (rPt [(.int .i64 ((l[0]'(by first | omega | (simp; omega) | (simp; done))).V))]), (rEq (.int .i64 ((l[0]'(by first | omega | (simp; omega) | (simp; done))).V))), (rEq (.int .u64 (zig ((l[0]'(by first | omega | (simp; omega) | (simp; done))).V)))), (rEq (.string (str (put (zig ((l[0]'(by first | omega | (simp; omega) | (simp; done))).V)))))), (rEq (.string (str ((done ++ (put ((l[0]'(by first | omega | (simp; omega) | (simp; done))).T))) ++ (put (zig ((l[0]'(by first | omega | (simp; omega) | (simp; done))).V))))))), (rEq (.string (str ((done ++ (put ((l[0]'(by first | omega | (simp; omega) | (simp; done))).T))) ++ (put (zig ((l[0]'(by first | omega | (simp; omega) | (simp; done))).V)))))))] (by kernel_rfl) rfl (by kernel_rfl) ⟨sEq, sEq, sPt, sPt, sEq, sEq, sEq, sEq, sEq, sPt, sPt, sEq, sEq, sEq, sEq, sEq, trivial⟩ ⟨?_, ?_, ?_, ?_, ?_, ?_, ?_, ?_, ?_, ?_, ?_, ?_, ?_, ?_, ?_, ?_, trivial⟩ ?_
        · rintro ρ83 w84 hj85 ⟨f4, _⟩
          have hst := hj85.2
          exact go_plain (op_move (.string (str done)) (f4.trans q66_4) (kS hj85 rfl))
        · rintro ρ86 w87 hj88 ⟨f0, _⟩
          have hst := hj88.2
          exact go_plain (op_move v_l (f0.trans q66_0) (kS hj88 rfl))
        · rintro ρ89 w90 hj91 ⟨f30, _⟩
          have hst := hj91.2
          refine go_plain (op_indexAddrN (E := sampE) (xs := l) 0 Try.underlying22 Try.sizeOf48 f30 h_l rfl (by omega) (by first | omega | (simp; omega) | (simp; done)) (fun a92 o93 p94 => ?_))
          exact kS hj91 ⟨_, _, rfl, (p94.below hst.below)⟩
        · rintro ρ95 w96 hj97 ⟨f31, _⟩
          have hst := hj97.2
          obtain ⟨a98, o99, e100, p101⟩ := f31
          exact go_plain (op_fieldAddr (s := 0) Try.underlying48 rfl rfl Try.sizeOf2 e100 (kS hj97 ⟨_, _, rfl, p101⟩))
        · rintro ρ102 w103 hj104 ⟨f32, _⟩
          have hst := hj104.2
          obtain ⟨a105, o106, e107, p108⟩ := f32
          exact go_plain (op_load1 (u := (.int .i64 ((l[0]'(by first | omega | (simp; omega) | (simp; done))).T))) Try.isAgg2 e107 p108 (kS hj104 rfl))
        · rintro ρ109 w110 hj111 ⟨f33, _⟩
          have hst := hj111.2
          exact go_plain (op_conv (k := .i64) (a := (l[0]'(by first | omega | (simp; omega) | (simp; done))).T) ((l[0]'(by first | omega | (simp; omega) | (simp; done))).T) Try.underlying54 (by rw [Try.underlying2]; rfl) f33 (xu64 (by omega) (by omega)) (kS hj111 rfl))
        · rintro ρ112 w113 hj114 ⟨f34, _⟩
          have hst := hj114.2
          refine go_plain (op_call Try.call25 (evs_cons (v := (.int .u64 ((l[0]'(by first | omega | (simp; omega) | (simp; done))).T))) f34 evs_nil) (c_rPut (w0 := w113) (n := (l[0]'(by first | omega | (simp; omega) | (simp; done))).T) (h0 := (by omega)) (h1 := (by omega))) ?_)
          rintro _ w115 ⟨rfl, hcall⟩
          refine ⟨_, rfl, ?_⟩
          exact kD hj114 hcall rfl
        · rintro ρ116 w117 hj118 ⟨f29, f35, _⟩
          have hst := hj118.2
          exact go_plain (op_addStr (a := done) (b := (put ((l[0]'(by first | omega | (simp; omega) | (simp; done))).T))) f29 f35 (by first | omega | (simp; omega) | (simp; done)) (kS hj118 rfl))
        · rintro ρ119 w120 hj121 ⟨f0, _⟩
          have hst := hj121.2
          exact go_plain (op_move v_l (f0.trans q66_0) (kS hj121 rfl))
        · rintro ρ122 w123 hj124 ⟨f37, _⟩
          have hst := hj124.2
          refine go_plain (op_indexAddrN (E := sampE) (xs := l) 0 Try.underlying22 Try.sizeOf48 f37 h_l rfl (by omega) (by first | omega | (simp; omega) | (simp; done)) (fun a125 o126 p127 => ?_))
          exact kS hj124 ⟨_, _, rfl, (p127.below hst.below)⟩
        · rintro ρ128 w129 hj130 ⟨f38, _⟩
          have hst := hj130.2
          obtain ⟨a131, o132, e133, p134⟩ := f38
          exact go_plain (op_fieldAddr (s := 0) Try.underlying48 rfl rfl Try.sizeOf2 e133 (kS hj130 ⟨_, _, rfl, (p134.drop 1)⟩))
        · rintro ρ135 w136 hj137 ⟨f39, _⟩
          have hst := hj137.2
          obtain ⟨a138, o139, e140, p141⟩ := f39
          exact go_plain (op_load1 (u := (.int .i64 ((l[0]'(by first | omega | (simp; omega) | (simp; done))).V))) Try.isAgg2 e140 p141 (kS hj137 rfl))
        · rintro ρ142 w143 hj144 ⟨f40, _⟩
          have hst := hj144.2
          refine go_plain (op_call Try.call26 (evs_cons (v := (.int .i64 ((l[0]'(by first | omega | (simp; omega) | (simp; done))).V))) f40 evs_nil) (c_rZig (w0 := w143) (m := (l[0]'(by first | omega | (simp; omega) | (simp; done))).V) (h0 := (by omega)) (h1 := (by omega))) ?_)
          rintro _ w145 ⟨rfl, hcall⟩
          refine ⟨_, rfl, ?_⟩
          exact kD hj144 hcall rfl
        · rintro ρ146 w147 hj148 ⟨f41, _⟩
          have hst := hj148.2
          refine go_plain (op_call Try.call25 (evs_cons (v := (.int .u64 (zig ((l[0]'(by first | omega | (simp; omega) | (simp; done))).V)))) f41 evs_nil) (c_rPut (w0 := w147) (n := (zig ((l[0]'(by first | omega | (simp; omega) | (simp; done))).V))) (h0 := (by omega)) (h1 := (by omega))) ?_)
          rintro _ w149 ⟨rfl, hcall⟩
          refine ⟨_, rfl, ?_⟩
          exact kD hj148 hcall rfl
        · rintro ρ150 w151 hj152 ⟨f36, f42, _⟩
          have hst := hj152.2
          exact go_plain (op_addStr (a := (done ++ (put ((l[0]'(by first | omega | (simp; omega) | (simp; done))).T)))) (b := (put (zig ((l[0]'(by first | omega | (simp; omega) | (simp; done))).V)))) f36 f42 (by first | omega | (simp; omega) | (simp; done)) (kS hj152 rfl))
        · rintro ρ153 w154 hj155 ⟨f43, _⟩
          have hst := hj155.2
          exact go_plain (op_assign (.string (str ((done ++ (put ((l[0]'(by first | omega | (simp; omega) | (simp; done))).T))) ++ (put (zig ((l[0]'(by first | omega | (simp; omega) | (simp; done))).V)))))) f43 (kS hj155 rfl))
        intro ρ156 w157 hbw157 hst hRw157 hkw157
        have uw157_0 : ρ156 0 = v_l := (hkw157 0 rfl).trans q66_0
        have uw157_2 : ρ156 2 = (.string (str ([] : List UInt8))) := (hkw157 2 rfl).trans q66_2
        have uw157_3 : ρ156 3 = (.int .i64 0) := (hkw157 3 rfl).trans q66_3
        have uw157_6 : ρ156 6 = (.int .i64 (i : Int)) := (hkw157 6 rfl).trans q66_6
        have uw157_5 : ρ156 5 = (.int .i64 st) := (hkw157 5 rfl).trans q66_5
        have uw157_21 : ρ156 21 = (.int .i64 (i : Int)) := (hkw157 21 rfl).trans rfl
        have uw157_22 : ρ156 22 = v_l := (hkw157 22 rfl).trans rfl
        have uw157_23 : ρ156 23 = (.int .i64 (l.length : Int)) := (hkw157 23 rfl).trans rfl
        have uw157_24 : ρ156 24 = (.bool (decide ((i : Int) < (l.length : Int)))) := (hkw157 24 rfl).trans rfl
        have uw157_27 : ρ156 27 = (.int .i64 (i : Int)) := (hkw157 27 rfl).trans rfl
        have uw157_28 : ρ156 28 = (.bool (decide ((i : Int) = 0))) := (hkw157 28 rfl).trans rfl
        have uw157_4 : ρ156 4 = (.string (str ((done ++ (put ((l[0]'(by first | omega | (simp; omega) | (simp; done))).T))) ++ (put (zig ((l[0]'(by first | omega | (simp; omega) | (simp; done))).V)))))) := hRw157 15 4 rfl
        refine then_n ?_
        refine cE_exit ?_
        refine then_x (block_hit (then_n ?_))
        refine cE_region rfl ?_
        refine s_cons (op_move (.int .i64 (i : Int)) uw157_6 ?_)
        refine s_cons (op_add (k := .i64) (a := (i : Int)) (b := 1) ((i : Int) + 1) rfl rfl (xi64 (by omega) (by omega)) ?_)
        refine s_cons (op_assign (.int .i64 ((i : Int) + 1)) rfl ?_)
        refine s_nil ?_
        refine then_n ?_
        exact ⟨_, ⟨((done ++ (put ((l[0]'(by first | omega | (simp; omega) | (simp; done))).T))) ++ (put (zig ((l[0]'(by first | omega | (simp; omega) | (simp; done))).V)))), (i + 1), st, rfl, uw157_0, uw157_2, uw157_3, uw157_4, (congrArg (Value.int .i64) (show ((i : Int) + 1) = _ from by omega)), uw157_5, hst, (by omega), (by omega), (by omega), (by first | omega | (simp; omega)), (by first | rfl | (rw [hp, restS_first0 (by omega) (by omega), show st = 0 from (by omega)]; simp; done) | (rw [hp, restS_next (by omega) (by omega)]; simp; done))⟩, (by simp only [id]; omega)⟩
      have c158 : ¬ ((i : Int) = 0) := of_decide_eq_false b72
      refine cE_cond false (congrArg Value.bool b72) (fun h => by cases h) (fun _ => ?_)
      refine cE_skip ?_
      refine then_n ?_
      refine cE_seq ?_
      have ht := htr _ (List.getElem_mem (show i < l.length by omega))
      have ht2 := htr _ (List.getElem_mem (show (i - 1) < l.length by omega))
      refine cE_regionL hst [[(0, none)], [(6, none)], [(44, some 0), (45, some 1)], [(46, some 2)], [(47, some 3)], [(0, none)], [(6, none)], [(50, some 6)], [(49, some 5), (51, some 7)], [(52, some 8)], [(53, some 9)], [(48, some 4), (54, some 10)], [(55, some 11)]] [(rEq v_l), (rEq (.int .i64 (i : Int))), (rPt [(.int .i64 ((l[i]'(by first | omega | (simp; omega) | (simp; done))).T)), (.int .i64 ((l[i]'(by first | omega | (simp; omega) | (simp; done))).V))]), (rPt [(.int .i64 ((l[i]'(by first | omega | (simp; omega) | (simp; done))).T)), (.int .i64 ((l[i]'(by first | omega | (simp; omega) | (simp; done))).V))]), (rEq (.int .i64 ((l[i]'(by first | omega | (simp; omega) | (simp; done))).T))), (rEq v_l), (rEq (.int .i64 (i : Int))), (rEq (.int .i64 ((i : Int) - 1))), (rPt [(.int .i64 ((l[(i - 1)]'(by first | omega | (simp; omega) | (simp; done))).T)), (.int .i64 ((l[(i - 1)]'(by first | omega | (simp; omega) | (simp; done))).V))]), (rPt [(.int .i64 ((l[(i - 1)]'(by first | omega | (simp; omega) | (simp; done))).T)), (.int .i64 ((l[(i - 1)]'(by first | omega | (simp; omega) | (simp; done))).V))]), (rEq (.int .i64 ((l[(i - 1)]'(by first | omega | (simp; omega) | (simp; done))).T))), (rEq (.int .i64 (((l[i]'(by first | omega | (simp; omega) | (simp; done))).T) - ((l[(i - 1)]'(by first | omega | (simp; omega) | (simp; done))).T)))), (rEq (.int .i64 (((l[i]'(by first | omega | (simp; omega) | (simp; done))).T) - ((l[(i - 1)]'(by first | omega | (simp; omega) | (simp; done))).T))))] (by kernel_rfl) rfl (by kernel_rfl) ⟨sEq, sEq, sPt, sPt, sEq, sEq, sEq, sEq, sPt, sPt, sEq, sEq, sEq, trivial⟩ ⟨?_, ?_, ?_, ?_, ?_, ?_, ?_, ?_, ?_, ?_, ?_, ?_, ?_, trivial⟩ ?_
      · rintro ρ165 w166 hj167 ⟨f0, _⟩
        have hst := hj167.2
        exact go_plain (op_move v_l (f0.trans q66_0) (kS hj167 rfl))
      · rintro ρ168 w169 hj170 ⟨f6, _⟩
        have hst := hj170.2
        exact go_plain (op_move (.int .i64 (i : Int)) (f6.trans q66_6) (kS hj170 rfl))
      · rintro ρ171 w172 hj173 ⟨f44, f45, _⟩
        have hst := hj173.2
        refine go_plain (op_indexAddrN (E := sampE) (xs := l) i Try.underlying22 Try.sizeOf48 f44 h_l f45 (by omega) (by first | omega | (simp; omega) | (simp; done)) (fun a174 o175 p176 => ?_))
        exact kS hj173 ⟨_, _, rfl, (p176.below hst.below)⟩
      · rintro ρ177 w178 hj179 ⟨f46, _⟩
        have hst := hj179.2
        obtain ⟨a180, o181, e182, p183⟩ := f46
        exact go_plain (op_fieldAddr (s := 0) Try.underlying48 rfl rfl Try.sizeOf2 e182 (kS hj179 ⟨_, _, rfl, p183⟩))
      · rintro ρ184 w185 hj186 ⟨f47, _⟩
        have hst := hj186.2
        obtain ⟨a187, o188, e189, p190⟩ := f47
        exact go_plain (op_load1 (u := (.int .i64 ((l[i]'(by first | omega | (simp; omega) | (simp; done))).T))) Try.isAgg2 e189 p190 (kS hj186 rfl))
      · rintro ρ191 w192 hj193 ⟨f0, _⟩
        have hst := hj193.2
        exact go_plain (op_move v_l (f0.trans q66_0) (kS hj193 rfl))
      · rintro ρ194 w195 hj196 ⟨f6, _⟩
        have hst := hj196.2
        exact go_plain (op_move (.int .i64 (i : Int)) (f6.trans q66_6) (kS hj196 rfl))
      · rintro ρ197 w198 hj199 ⟨f50, _⟩
        have hst := hj199.2
        exact go_plain (op_sub (k := .i64) (a := (i : Int)) (b := 1) ((i : Int) - 1) f50 rfl (xi64 (by omega) (by omega)) (kS hj199 rfl))
      · rintro ρ200 w201 hj202 ⟨f49, f51, _⟩
        have hst := hj202.2
        refine go_plain (op_indexAddrN (E := sampE) (xs := l) (i - 1) Try.underlying22 Try.sizeOf48 f49 h_l f51 (by omega) (by first | omega | (simp; omega) | (simp; done)) (fun a203 o204 p205 => ?_))
        exact kS hj202 ⟨_, _, rfl, (p205.below hst.below)⟩
      · rintro ρ206 w207 hj208 ⟨f52, _⟩
        have hst := hj208.2
        obtain ⟨a209, o210, e211, p212⟩ := f52
        exact go_plain (op_fieldAddr (s := 0) Try.underlying48 rfl rfl Try.sizeOf2 e211 (kS hj208 ⟨_, _, rfl, p212⟩))
      · rintro ρ213 w214 hj215 ⟨f53, _⟩
        have hst := hj215.2
        obtain ⟨a216, o217, e218, p219⟩ := f53
        exact go_plain (op_load1 (u := (.int .i64 ((l[(i - 1)]'(by first | omega | (simp; omega) | (simp; done))).T))) Try.isAgg2 e218 p219 (kS hj215 rfl))
      · rintro ρ220 w221 hj222 ⟨f48, f54, _⟩
        have hst := hj222.2
        exact go_plain (op_sub (k := .i64) (a := (l[i]'(by first | omega | (simp; omega) | (simp; done))).T) (b := (l[(i - 1)]'(by first | omega | (simp; omega) | (simp; done))).T) (((l[i]'(by first | omega | (simp; omega) | (simp; done))).T) - ((l[(i - 1)]'(by first | omega | (simp; omega) | (simp; done))).T)) f48 f54 (xi64 (by omega) (by omega)) (kS hj222 rfl))
      · rintro ρ223 w224 hj225 ⟨f55, _⟩
        have hst := hj225.2
        exact go_plain (op_assign (.int .i64 (((l[i]'(by first | omega | (simp; omega) | (simp; done))).T) - ((l[(i - 1)]'(by first | omega | (simp; omega) | (simp; done))).T))) f55 (kS hj225 rfl))
      intro ρ226 w227 hbw227 hst hRw227 hkw227
      have uw227_0 : ρ226 0 = v_l := (hkw227 0 rfl).trans q66_0
      have uw227_2 : ρ226 2 = (.string (str ([] : List UInt8))) := (hkw227 2 rfl).trans q66_2
      have uw227_3 : ρ226 3 = (.int .i64 0) := (hkw227 3 rfl).trans q66_3
      have uw227_4 : ρ226 4 = (.string (str done)) := (hkw227 4 rfl).trans q66_4
      have uw227_6 : ρ226 6 = (.int .i64 (i : Int)) := (hkw227 6 rfl).trans q66_6
      have uw227_5 : ρ226 5 = (.int .i64 st) := (hkw227 5 rfl).trans q66_5
      have uw227_21 : ρ226 21 = (.int .i64 (i : Int)) := (hkw227 21 rfl).trans rfl
      have uw227_22 : ρ226 22 = v_l := (hkw227 22 rfl).trans rfl
      have uw227_23 : ρ226 23 = (.int .i64 (l.length : Int)) := (hkw227 23 rfl).trans rfl
      have uw227_24 : ρ226 24 = (.bool (decide ((i : Int) < (l.length : Int)))) := (hkw227 24 rfl).trans rfl
      have uw227_27 : ρ226 27 = (.int .i64 (i : Int)) := (hkw227 27 rfl).trans rfl
      have uw227_28 : ρ226 28 = (.bool (decide ((i : Int) = 0))) := (hkw227 28 rfl).trans rfl
      have uw227_7 : ρ226 7 = (.int .i64 (((l[i]'(by first | omega | (simp; omega) | (simp; done))).T) - ((l[(i - 1)]'(by first | omega | (simp; omega) | (simp; done))).T))) := hRw227 12 7 rfl
      refine then_n ?_
      refine cE_seq ?_
      refine cE_regionL hst [[(0, none)], [(6, none)], [(56, some 0), (57, some 1)], [(58, some 2)], [(59, some 3)], [(60, some 4)], [(0, none)], [(6, none)], [(63, some 7)], [(62, some 6), (64, some 8)], [(65, some 9)], [(66, some 10)], [(67, some 11)], [(61, some 5), (68, some 12)], [(69, some 13)], [(70, some 14)]] [(rEq v_l), (rEq (.int .i64 (i : Int))), (rPt [(.int .i64 ((l[i]'(by first | omega | (simp; omega) | (simp; done))).T)), (.int .i64 ((l[i]'(by first | omega | (simp; omega) | (simp; done))).V))]), (rPt [(.int .i64 ((l[i]'(by first | omega | (simp; omega) | (simp; done))).V))]), (rEq (.int .i64 ((l[i]'(by first | omega | (simp; omega) | (simp; done))).V))), (rEq (.int .u64 ((l[i]'(by first | omega | (simp; omega) | (simp; done))).V % 18446744073709551616))), (rEq v_l), (rEq (.int .i64 (i : Int))), (rEq (.int .i64 ((i : Int) - 1))), (rPt [(.int .i64 ((l[(i - 1)]'(by first | omega | (simp; omega) | (simp; done))).T)), (.int .i64 ((l[(i - 1)]'(by first | omega | (simp; omega) | (simp; done))).V))]), (rPt [(.int .i64 ((l[(i - 1)]'(by first | omega | (simp; omega) | (simp; done))).V))]), (rEq (.int .i64 ((l[(i - 1)]'(by first | omega | (simp; omega) | (simp; done))).V))), (rEq (.int .u64 ((l[(i - 1)]'(by first | omega | (simp; omega) | (simp; done))).V % 18446744073709551616))), (rEq (.int .u64 ((((l[i]'(by first | omega | (simp; omega) | (simp; done))).V % 18446744073709551616) - ((l[(i - 1)]'(by first | omega | (simp; omega) | (simp; done))).V % 18446744073709551616)) % 18446744073709551616))), (rEq (.int .i64 (wr ((l[i]'(by omega)).V - (l[i - 1]'(by omega)).V)))), (rEq (.int .i64 (wr ((l[i]'(by omega)).V - (l[i - 1]'(by omega)).V))))] (by kernel_rfl) rfl (by kernel_rfl) ⟨sEq, sEq, sPt, sPt, sEq, sEq, sEq, sEq, sEq, sPt, sPt, sEq, sEq, sEq, sEq, sEq, trivial⟩ ⟨?_, ?_, ?_, ?_, ?_, ?_, ?_, ?_, ?_, ?_, ?_, ?_, ?_, ?_, ?_, ?_, trivial⟩ ?_
      · rintro ρ234 w235 hj236 ⟨f0, _⟩
        have hst := hj236.2
        exact go_plain (op_move v_l (f0.trans uw227_0) (kS hj236 rfl))
      · rintro ρ237 w238 hj239 ⟨f6, _⟩
        have hst := hj239.2
        exact go_plain (op_move (.int .i64 (i : Int)) (f6.trans uw227_6) (kS hj239 rfl))
      · rintro ρ240 w241 hj242 ⟨f56, f57, _⟩
        have hst := hj242.2
        refine go_plain (op_indexAddrN (E := sampE) (xs := l) i Try.underlying22 Try.sizeOf48 f56 h_l f57 (by omega) (by first | omega | (simp; omega) | (simp; done)) (fun a243 o244 p245 => ?_))
        exact kS hj242 ⟨_, _, rfl, (p245.below hst.below)⟩
      · rintro ρ246 w247 hj248 ⟨f58, _⟩
        have hst := hj248.2
        obtain ⟨a249, o250, e251, p252⟩ := f58
        exact go_plain (op_fieldAddr (s := 0) Try.underlying48 rfl rfl Try.sizeOf2 e251 (kS hj248 ⟨_, _, rfl, (p252.drop 1)⟩))
      · rintro ρ253 w254 hj255 ⟨f59, _⟩
        have hst := hj255.2
        obtain ⟨a256, o257, e258, p259⟩ := f59
        exact go_plain (op_load1 (u := (.int .i64 ((l[i]'(by first | omega | (simp; omega) | (simp; done))).V))) Try.isAgg2 e258 p259 (kS hj255 rfl))
      · rintro ρ260 w261 hj262 ⟨f60, _⟩
        have hst := hj262.2
        exact go_plain (op_conv (k := .i64) (a := (l[i]'(by first | omega | (simp; omega) | (simp; done))).V) ((l[i]'(by first | omega | (simp; omega) | (simp; done))).V % 18446744073709551616) Try.underlying54 (by rw [Try.underlying2]; rfl) f60 (IntKind.wrap_u64 _) (kS hj262 rfl))
      · rintro ρ263 w264 hj265 ⟨f0, _⟩
        have hst := hj265.2
        exact go_plain (op_move v_l (f0.trans uw227_0) (kS hj265 rfl))
      · rintro ρ266 w267 hj268 ⟨f6, _⟩
        have hst := hj268.2
        exact go_plain (op_move (.int .i64 (i : Int)) (f6.trans uw227_6) (kS hj268 rfl))
      · rintro ρ269 w270 hj271 ⟨f63, _⟩
        have hst := hj271.2
        exact go_plain (op_sub (k := .i64) (a := (i : Int)) (b := 1) ((i : Int) - 1) f63 rfl (xi64 (by omega) (by omega)) (kS hj271 rfl))
      · rintro ρ272 w273 hj274 ⟨f62, f64, _⟩
        have hst := hj274.2
        refine go_plain (op_indexAddrN (E := sampE) (xs := l) (i - 1) Try.underlying22 Try.sizeOf48 f62 h_l f64 (by omega) (by first | omega | (simp; omega) | (simp; done)) (fun a275 o276 p277 => ?_))
        exact kS hj274 ⟨_, _, rfl, (p277.below hst.below)⟩
      · rintro ρ278 w279 hj280 ⟨f65, _⟩
        have hst := hj280.2
        obtain ⟨a281, o282, e283, p284⟩ := f65
        exact go_plain (op_fieldAddr (s := 0) Try.underlying48 rfl rfl Try.sizeOf2 e283 (kS hj280 ⟨_, _, rfl, (p284.drop 1)⟩))
      · rintro ρ285 w286 hj287 ⟨f66, _⟩
        have hst := hj287.2
        obtain ⟨a288, o289, e290, p291⟩ := f66
        exact go_plain (op_load1 (u := (.int .i64 ((l[(i - 1)]'(by first | omega | (simp; omega) | (simp; done))).V))) Try.isAgg2 e290 p291 (kS hj287 rfl))
      · rintro ρ292 w293 hj294 ⟨f67, _⟩
        have hst := hj294.2
        exact go_plain (op_conv (k := .i64) (a := (l[(i - 1)]'(by first | omega | (simp; omega) | (simp; done))).V) ((l[(i - 1)]'(by first | omega | (simp; omega) | (simp; done))).V % 18446744073709551616) Try.underlying54 (by rw [Try.underlying2]; rfl) f67 (IntKind.wrap_u64 _) (kS hj294 rfl))
      · rintro ρ295 w296 hj297 ⟨f61, f68, _⟩
        have hst := hj297.2
        exact go_plain (op_sub (k := .u64) (a := ((l[i]'(by first | omega | (simp; omega) | (simp; done))).V % 18446744073709551616)) (b := ((l[(i - 1)]'(by first | omega | (simp; omega) | (simp; done))).V % 18446744073709551616)) ((((l[i]'(by first | omega | (simp; omega) | (simp; done))).V % 18446744073709551616) - ((l[(i - 1)]'(by first | omega | (simp; omega) | (simp; done))).V % 18446744073709551616)) % 18446744073709551616) f61 f68 (IntKind.wrap_u64 _) (kS hj297 rfl))
      · rintro ρ298 w299 hj300 ⟨f69, _⟩
        have hst := hj300.2
        exact go_plain (op_conv (k := .u64) (a := ((((l[i]'(by first | omega | (simp; omega) | (simp; done))).V % 18446744073709551616) - ((l[(i - 1)]'(by first | omega | (simp; omega) | (simp; done))).V % 18446744073709551616)) % 18446744073709551616)) (wr ((l[i]'(by omega)).V - (l[i - 1]'(by omega)).V)) Try.underlying2 (by rw [Try.underlying54]; rfl) f69 wr_modS (kS hj300 rfl))
      · rintro ρ301 w302 hj303 ⟨f70, _⟩
        have hst := hj303.2
        exact go_plain (op_assign (.int .i64 (wr ((l[i]'(by omega)).V - (l[i - 1]'(by omega)).V))) f70 (kS hj303 rfl))
      intro ρ304 w305 hbw305 hst hRw305 hkw305
      have uw305_0 : ρ304 0 = v_l := (hkw305 0 rfl).trans uw227_0
      have uw305_2 : ρ304 2 = (.string (str ([] : List UInt8))) := (hkw305 2 rfl).trans uw227_2
      have uw305_3 : ρ304 3 = (.int .i64 0) := (hkw305 3 rfl).trans uw227_3
      have uw305_4 : ρ304 4 = (.string (str done)) := (hkw305 4 rfl).trans uw227_4
      have uw305_6 : ρ304 6 = (.int .i64 (i : Int)) := (hkw305 6 rfl).trans uw227_6
      have uw305_5 : ρ304 5 = (.int .i64 st) := (hkw305 5 rfl).trans uw227_5
      have uw305_21 : ρ304 21 = (.int .i64 (i : Int)) := (hkw305 21 rfl).trans uw227_21
      have uw305_22 : ρ304 22 = v_l := (hkw305 22 rfl).trans uw227_22
      have uw305_23 : ρ304 23 = (.int .i64 (l.length : Int)) := (hkw305 23 rfl).trans uw227_23
      have uw305_24 : ρ304 24 = (.bool (decide ((i : Int) < (l.length : Int)))) := (hkw305 24 rfl).trans uw227_24
      have uw305_27 : ρ304 27 = (.int .i64 (i : Int)) := (hkw305 27 rfl).trans uw227_27
      have uw305_28 : ρ304 28 = (.bool (decide ((i : Int) = 0))) := (hkw305 28 rfl).trans uw227_28
      have uw305_7 : ρ304 7 = (.int .i64 (((l[i]'(by first | omega | (simp; omega) | (simp; done))).T) - ((l[(i - 1)]'(by first | omega | (simp; omega) | (simp; done))).T))) := (hkw305 7 rfl).trans uw227_7
      have uw305_8 : ρ304 8 = (.int .i64 (wr ((l[i]'(by omega)).V - (l[i - 1]'(by omega)).V))) := hRw305 15 8 rfl
      refine then_n ?_
      refine cE_seq ?_
      have hz1 := zig_r (m := (l[i]'(by omega)).T - (l[i - 1]'(by omega)).T - st) ⟨by omega, by omega⟩
      have hw := wr_r ((l[i]'(by omega)).V - (l[i - 1]'(by omega)).V)
      have hz2 := zig_r hw
      have q1 := put_length (zig ((l[i]'(by omega)).T - (l[i - 1]'(by omega)).T - st))
      have q2 := put_length (zig (wr ((l[i]'(by omega)).V - (l[i - 1]'(by omega)).V)))
      refine cE_region rfl ?_
      refine s_cons (op_move (.string (str done)) uw305_4 ?_)
      refine s_cons (op_move (.int .i64 (((l[i]'(by first | omega | (simp; omega) | (simp; done))).T) - ((l[(i - 1)]'(by first | omega | (simp; omega) | (simp; done))).T))) uw305_7 ?_)
      refine s_cons (op_move (.int .i64 st) uw305_5 ?_)
      refine s_cons (op_sub (k := .i64) (a := (((l[i]'(by first | omega | (simp; omega) | (simp; done))).T) - ((l[(i - 1)]'(by first | omega | (simp; omega) | (simp; done))).T))) (b := st) ((((l[i]'(by first | omega | (simp; omega) | (simp; done))).T) - ((l[(i - 1)]'(by first | omega | (simp; omega) | (simp; done))).T)) - st) rfl rfl (xi64 (by omega) (by omega)) ?_)
      refine s_cons (op_call Try.call26 (evs_cons (v := (.int .i64 ((((l[i]'(by first | omega | (simp; omega) | (simp; done))).T) - ((l[(i - 1)]'(by first | omega | (simp; omega) | (simp; done))).T)) - st))) rfl evs_nil) (c_rZig (w0 := w305) (m := ((((l[i]'(by first | omega | (simp; omega) | (simp; done))).T) - ((l[(i - 1)]'(by first | omega | (simp; omega) | (simp; done))).T)) - st)) (h0 := (by omega)) (h1 := (by omega))) ?_)
      rintro _ w306 ⟨rfl, hcall⟩
      refine ⟨_, rfl, ?_⟩
      have hst : St w0 w306 [] := hst.call hcall
      refine s_cons (op_call Try.call25 (evs_cons (v := (.int .u64 (zig ((((l[i]'(by first | omega | (simp; omega) | (simp; done))).T) - ((l[(i - 1)]'(by first | omega | (simp; omega) | (simp; done))).T)) - st)))) rfl evs_nil) (c_rPut (w0 := w306) (n := (zig ((((l[i]'(by first | omega | (simp; omega) | (simp; done))).T) - ((l[(i - 1)]'(by first | omega | (simp; omega) | (simp; done))).T)) - st))) (h0 := (by omega)) (h1 := (by omega))) ?_)
      rintro _ w307 ⟨rfl, hcall⟩
      refine ⟨_, rfl, ?_⟩
      have hst : St w0 w307 [] := hst.call hcall
      refine s_cons (op_addStr (a := done) (b := (put (zig ((((l[i]'(by first | omega | (simp; omega) | (simp; done))).T) - ((l[(i - 1)]'(by first | omega | (simp; omega) | (simp; done))).T)) - st)))) rfl rfl (by first | omega | (simp; omega) | (simp; done)) ?_)
      refine s_cons (op_move (.int .i64 (wr ((l[i]'(by omega)).V - (l[i - 1]'(by omega)).V))) uw305_8 ?_)
      refine s_cons (op_call Try.call26 (evs_cons (v := (.int .i64 (wr ((l[i]'(by omega)).V - (l[i - 1]'(by omega)).V)))) rfl evs_nil) (c_rZig (w0 := w307) (m := (wr ((l[i]'(by omega)).V - (l[i - 1]'(by omega)).V))) (h0 := (by omega)) (h1 := (by omega))) ?_)
      rintro _ w308 ⟨rfl, hcall⟩
      refine ⟨_, rfl, ?_⟩
      have hst : St w0 w308 [] := hst.call hcall
      refine s_cons (op_call Try.call25 (evs_cons (v := (.int .u64 (zig (wr ((l[i]'(by omega)).V - (l[i - 1]'(by omega)).V))))) rfl evs_nil) (c_rPut (w0 := w308) (n := (zig (wr ((l[i]'(by omega)).V - (l[i - 1]'(by omega)).V)))) (h0 := (by omega)) (h1 := (by omega))) ?_)
      rintro _ w309 ⟨rfl, hcall⟩
      refine ⟨_, rfl, ?_⟩
      have hst : St w0 w309 [] := hst.call hcall
      refine s_cons (op_addStr (a := (done ++ (put (zig ((((l[i]'(by first | omega | (simp; omega) | (simp; done))).T) - ((l[(i - 1)]'(by first | omega | (simp; omega) | (simp; done))).T)) - st))))) (b := (put (zig (wr ((l[i]'(by omega)).V - (l[i - 1]'(by omega)).V))))) rfl rfl (by first | omega | (simp; omega) | (simp; done)) ?_)
      refine s_cons (op_assign (.string (str ((done ++ (put (zig ((((l[i]'(by first | omega | (simp; omega) | (simp; done))).T) - ((l[(i - 1)]'(by first | omega | (simp; omega) | (simp; done))).T)) - st)))) ++ (put (zig (wr ((l[i]'(by omega)).V - (l[i - 1]'(by omega)).V))))))) rfl ?_)
      refine s_nil ?_
      refine then_n ?_
      refine cE_region rfl ?_
      refine s_cons (op_move (.int .i64 (((l[i]'(by first | omega | (simp; omega) | (simp; done))).T) - ((l[(i - 1)]'(by first | omega | (simp; omega) | (simp; done))).T))) uw305_7 ?_)
      refine s_cons (op_assign (.int .i64 (((l[i]'(by first | omega | (simp; omega) | (simp; done))).T) - ((l[(i - 1)]'(by first | omega | (simp; omega) | (simp; done))).T))) rfl ?_)
      refine s_nil ?_
      refine block_n (then_n ?_)
      refine cE_region rfl ?_
      refine s_cons (op_move (.int .i64 (i : Int)) uw305_6 ?_)
      refine s_cons (op_add (k := .i64) (a := (i : Int)) (b := 1) ((i : Int) + 1) rfl rfl (xi64 (by omega) (by omega)) ?_)
      refine s_cons (op_assign (.int .i64 ((i : Int) + 1)) rfl ?_)
      refine s_nil ?_
      refine then_n ?_
      exact ⟨_, ⟨((done ++ (put (zig ((((l[i]'(by first | omega | (simp; omega) | (simp; done))).T) - ((l[(i - 1)]'(by first | omega | (simp; omega) | (simp; done))).T)) - st)))) ++ (put (zig (wr ((l[i]'(by omega)).V - (l[i - 1]'(by omega)).V))))), (i + 1), (((l[i]'(by first | omega | (simp; omega) | (simp; done))).T) - ((l[(i - 1)]'(by first | omega | (simp; omega) | (simp; done))).T)), rfl, uw305_0, uw305_2, uw305_3, rfl, (congrArg (Value.int .i64) (show ((i : Int) + 1) = _ from by omega)), rfl, hst, (by omega), (by omega), (by omega), (by first | omega | (simp; omega)), (by first | rfl | (rw [hp, restS_first0 (by omega) (by omega), show st = 0 from (by omega)]; simp; done) | (rw [hp, restS_next (by omega) (by omega)]; simp; done))⟩, (by simp only [id]; omega)⟩
    have c310 : ¬ ((i : Int) < (l.length : Int)) := of_decide_eq_false b70
    refine cE_cond false (congrArg Value.bool b70) (fun h => by cases h) (fun _ => ?_)
    refine cE_exit ?_
    refine then_x (then_x (block_hit (then_n ?_)))
    refine cE_seq ?_
    refine cE_region rfl ?_
    refine s_cons (op_move (.string (str done)) q66_4 ?_)
    refine s_cons (op_assign (.string (str done)) rfl ?_)
    refine s_cons (op_assign (.int .i64 0) rfl ?_)
    refine s_nil ?_
    refine then_n ?_
    refine cE_ret ?_
    refine post_r _ (res2 (v := (.string (str done))) rfl (x := (.int .i64 0)) rfl) ?_
    exact ⟨(retv2 (congrArg (fun l => Value.string (str l)) (show done = (encS l).1 from by first | rw [encS_no (Or.inl (by assumption))] | rw [encS_no (Or.inr (by omega))] | (rw [encS_yes hok]; done) | (rw [encS_yes hok]; show _ = putS l; rw [hp, restS_end (by omega), List.append_nil]))) (congrArg (Value.int .i64) (show 0 = (encS l).2 from by first | rw [encS_no (Or.inl (by assumption))] | rw [encS_no (Or.inr (by omega))] | (rw [encS_yes hok]; done) | (rw [encS_yes hok]; show _ = putS l; rw [hp, restS_end (by omega), List.append_nil])))), hst.bare⟩
  refine s_no 12 rfl (congrArg Value.bool (congrArg (! ·) b61)) ?_
  refine s_no 12 rfl (congrArg Value.bool (congrArg (! ·) b61)) ?_
  refine s_no 12 rfl (congrArg Value.bool (congrArg (! ·) b61)) ?_
  refine s_cons (op_pick_t (.bool true) (congrArg Value.bool (congrArg (! ·) b61)) rfl ?_)
  refine s_nil ?_
  refine then_n ?_
  refine cE_cond true rfl (fun _ => ?_) (fun h => by cases h)
  refine cE_seq ?_
  refine cE_region rfl ?_
  refine s_cons (op_assign (.string (str ([] : List UInt8))) rfl ?_)
  refine s_cons (op_assign (.int .i64 1) rfl ?_)
  refine s_nil ?_
  refine then_n ?_
  refine cE_ret ?_
  refine then_r ?_
  refine post_r _ (res2 (v := (.string (str ([] : List UInt8)))) rfl (x := (.int .i64 1)) rfl) ?_
  exact ⟨(retv2 (congrArg (fun l => Value.string (str l)) (show ([] : List UInt8) = (encS l).1 from by first | rw [encS_no (Or.inl (by assumption))] | rw [encS_no (Or.inr (by omega))] | (rw [encS_yes hok]; done) | (rw [encS_yes hok]; show _ = putS l; rw [hp, restS_end (by omega), List.append_nil]))) (congrArg (Value.int .i64) (show 1 = (encS l).2 from by first | rw [encS_no (Or.inl (by assumption))] | rw [encS_no (Or.inr (by omega))] | (rw [encS_yes hok]; done) | (rw [encS_yes hok]; show _ = putS l; rw [hp, restS_end (by omega), List.append_nil])))), hst.bare⟩

set_option maxHeartbeats 4000000 in
theorem c_cBlock {w0 w : World} {L : List Item} (g_c : Nat) (b : List UInt8) (at_ : Int) (bad : Bool) (hl : b.length ≤ 1000000000) (ha : at_ = 0) (hb : bad = false) (hst : St w0 w (.blk g_c 66 #[(.string (str b)), (.int .i64 at_), (.bool bad)] :: L)) :
    Calls Try.prog 31 #[(.pointer (some ⟨g_c, 0, none⟩))] w fun e w' => ∃ (r : Value), ∃ (out : List Sample), ∃ (p1 : Int), ∃ (bd : Bool), e = .returned r ∧ St w0 w' (rowT 48 sampE r out :: .blk g_c 66 #[(.string (str b)), (.int .i64 p1), (.bool bd)] :: L) ∧ RB b out bd := by
  refine calls_E (n := 80) (ts := [2]) Try.func31 rfl rfl rfl (by simp) ?_
  refine cE_seq ?_
  refine cE_region rfl ?_
  refine s_cons (op_assign (.slice none 0 0) rfl ?_)
  refine s_nil ?_
  refine then_n ?_
  refine cE_seq ?_
  refine cE_region rfl ?_
  refine s_cons (op_move (.pointer (some ⟨g_c, 0, none⟩)) rfl ?_)
  refine s_cons (op_call Try.call41 (evs_cons (v := (.pointer (some ⟨g_c, 0, none⟩))) rfl evs_nil) (c_cNum (g_c := g_c) (b := b) (at_ := at_) (bad := bad) (hl := hl) (hst := hst)) ?_)
  rintro _ w311 ⟨rfl, hcall⟩
  refine ⟨_, rfl, ?_⟩
  have hst : St w0 w311 (.blk g_c 66 #[(.string (str b)), (.int .i64 (rto bad b at_)), (.bool (rbad bad b at_))] :: L) := hcall
  refine s_cons (op_assign (.int .u64 (rnum bad b at_)) rfl ?_)
  refine s_nil ?_
  refine then_n ?_
  refine cE_seq ?_
  refine cE_seq ?_
  refine cE_region rfl ?_
  refine s_cons (op_move (.int .u64 (rnum bad b at_)) rfl ?_)
  refine s_cons (op_gtr (k := .u64) (a := (rnum bad b at_)) (b := 64) rfl rfl ?_)
  refine s_nil ?_
  refine then_n ?_
  rcases Bool.eq_false_or_eq_true (decide (64 < (rnum bad b at_))) with b312 | b312
  · have c313 : 64 < (rnum bad b at_) := of_decide_eq_true b312
    refine cE_cond true (congrArg Value.bool b312) (fun _ => ?_) (fun h => by cases h)
    refine cE_region rfl ?_
    refine s_cons (op_move (.pointer (some ⟨g_c, 0, none⟩)) rfl ?_)
    refine s_cons (op_nilCheck rfl ?_)
    refine s_cons (op_fieldAddr (s := 0) Try.underlying66 rfl rfl Try.sizeOf4 rfl ?_)
    refine s_cons0 (op_store1 hst 0 rfl Try.sizeOf4 rfl rfl rfl (show 2 < 3 from by decide) (fun w314 hst => ?_))
    replace hst : St w0 w314 (.blk g_c 66 #[(.string (str b)), (.int .i64 (rto bad b at_)), (.bool true)] :: L) := hst
    refine s_nil ?_
    refine then_n ?_
    refine cE_seq ?_
    refine cE_region rfl ?_
    refine s_cons (op_assign (.slice none 0 0) rfl ?_)
    refine s_nil ?_
    refine then_n ?_
    refine cE_seq ?_
    refine cE_region rfl ?_
    refine s_cons (op_assign (.int .i64 0) rfl ?_)
    refine s_nil ?_
    refine then_n ?_
    refine cE_seq ?_
    refine cE_seq ?_
    have hnr0 := rnum_r bad b at_
    refine cE_region rfl ?_
    refine s_cons (op_assign (.int .i64 0) rfl ?_)
    refine s_nil ?_
    refine then_n ?_
    refine cE_block ?_
    refine cE_loop (fun (m : Nat) (ρ : Env) (w : World) => m = 0 ∧ ρ 0 = (.pointer (some ⟨g_c, 0, none⟩)) ∧ ρ 2 = (.slice none 0 0) ∧ ρ 3 = (.int .u64 (rnum bad b at_)) ∧ ρ 4 = (.slice none 0 0) ∧ ρ 6 = (.int .i64 0) ∧ St w0 w (.blk g_c 66 #[(.string (str b)), (.int .i64 (rto bad b at_)), (.bool true)] :: L)) id _ ⟨rfl, rfl, rfl, rfl, rfl, rfl, hst⟩ ?_
    rintro m316 ρ317 w318 ⟨hm316, q315_0, q315_2, q315_3, q315_4, q315_6, hst⟩
    refine cE_seq ?_
    refine cE_seq ?_
    refine cE_region rfl ?_
    refine s_cons (op_move (.int .i64 0) q315_6 ?_)
    refine s_cons (op_move (.int .u64 (rnum bad b at_)) q315_3 ?_)
    refine s_cons (op_conv (k := .u64) (a := (rnum bad b at_)) (wr ((rnum bad b at_))) Try.underlying3 (by rw [Try.underlying54]; rfl) rfl rfl ?_)
    refine s_cons (op_lss (k := .i64) (a := 0) (b := (wr ((rnum bad b at_)))) rfl rfl ?_)
    refine s_cons (op_move (.bool (decide (0 < (wr ((rnum bad b at_)))))) rfl ?_)
    rcases Bool.eq_false_or_eq_true (decide (0 < (wr ((rnum bad b at_))))) with b319 | b319
    · have c320 : 0 < (wr ((rnum bad b at_))) := of_decide_eq_true b319
      refine s_yes 20 rfl (congrArg Value.bool b319) (op_move (.pointer (some ⟨g_c, 0, none⟩)) q315_0 ?_)
      refine s_yes 20 rfl (congrArg Value.bool b319) (op_nilCheck rfl ?_)
      refine s_yes 20 rfl (congrArg Value.bool b319) (op_fieldAddr (s := 0) Try.underlying66 rfl rfl Try.sizeOf4 rfl ?_)
      refine s_yes 20 rfl (congrArg Value.bool b319) (op_load1 (u := (.bool true)) Try.isAgg4 rfl ((hst.cell 0 rfl).drop 2) ?_)
      refine s_yes 20 rfl (congrArg Value.bool b319) (op_not (b := true) rfl ?_)
      refine s_cons (op_pick_t (.bool (!true)) (congrArg Value.bool b319) rfl ?_)
      refine s_nil ?_
      refine then_n ?_
      refine cE_cond false (congrArg Value.bool (congrArg (! ·) rfl)) (fun h => by cases h) (fun _ => ?_)
      refine cE_exit ?_
      refine then_x (then_x (block_hit (then_n ?_)))
      refine cE_seq ?_
      refine cE_region rfl ?_
      refine s_cons (op_move (.slice none 0 0) q315_4 ?_)
      refine s_cons (op_assign (.slice none 0 0) rfl ?_)
      refine s_nil ?_
      refine then_n ?_
      refine cE_ret ?_
      refine post_r _ (res1 (v := (.slice none 0 0)) rfl) ?_
      have hd := RB_end (RS_start2 (x := true) ha hb (by omega)) (Or.inl rfl)
      replace hst : St w0 w318 (rowT 48 sampE (.slice none 0 0) ([]) :: .blk g_c 66 #[(.string (str b)), (.int .i64 (rto bad b at_)), (.bool true)] :: L) := hst.nilRow 48 sampE
      exact ⟨(.slice none 0 0), [], (rto bad b at_), true, rfl, hst.sub (.cons_cons _ (.cons_cons _ (List.Sublist.refl _))), hd⟩
    have c321 : ¬ (0 < (wr ((rnum bad b at_)))) := of_decide_eq_false b319
    refine s_no 20 rfl (congrArg Value.bool b319) ?_
    refine s_no 20 rfl (congrArg Value.bool b319) ?_
    refine s_no 20 rfl (congrArg Value.bool b319) ?_
    refine s_no 20 rfl (congrArg Value.bool b319) ?_
    refine s_no 20 rfl (congrArg Value.bool b319) ?_
    refine s_cons (op_pick_f (.bool false) (congrArg Value.bool b319) rfl ?_)
    refine s_nil ?_
    refine then_n ?_
    refine cE_cond false rfl (fun h => by cases h) (fun _ => ?_)
    refine cE_exit ?_
    refine then_x (then_x (block_hit (then_n ?_)))
    refine cE_seq ?_
    refine cE_region rfl ?_
    refine s_cons (op_move (.slice none 0 0) q315_4 ?_)
    refine s_cons (op_assign (.slice none 0 0) rfl ?_)
    refine s_nil ?_
    refine then_n ?_
    refine cE_ret ?_
    refine post_r _ (res1 (v := (.slice none 0 0)) rfl) ?_
    have hd := RB_end (RS_start2 (x := true) ha hb (by omega)) (Or.inl rfl)
    replace hst : St w0 w318 (rowT 48 sampE (.slice none 0 0) ([]) :: .blk g_c 66 #[(.string (str b)), (.int .i64 (rto bad b at_)), (.bool true)] :: L) := hst.nilRow 48 sampE
    exact ⟨(.slice none 0 0), [], (rto bad b at_), true, rfl, hst.sub (.cons_cons _ (.cons_cons _ (List.Sublist.refl _))), hd⟩
  have c322 : ¬ (64 < (rnum bad b at_)) := of_decide_eq_false b312
  refine cE_cond false (congrArg Value.bool b312) (fun h => by cases h) (fun _ => ?_)
  refine cE_skip ?_
  refine then_n ?_
  refine cE_seq ?_
  refine cE_region rfl ?_
  refine s_cons (op_assign (.slice none 0 0) rfl ?_)
  refine s_nil ?_
  refine then_n ?_
  refine cE_seq ?_
  refine cE_region rfl ?_
  refine s_cons (op_assign (.int .i64 0) rfl ?_)
  refine s_nil ?_
  refine then_n ?_
  refine cE_seq ?_
  refine cE_seq ?_
  have hnr0 := rnum_r bad b at_
  refine cE_region rfl ?_
  refine s_cons (op_assign (.int .i64 0) rfl ?_)
  refine s_nil ?_
  refine then_n ?_
  refine cE_block ?_
  replace hst : St w0 w311 (rowT 48 sampE (.slice none 0 0) ([]) :: .blk g_c 66 #[(.string (str b)), (.int .i64 (rto bad b at_)), (.bool (rbad bad b at_))] :: L) := hst.nilRow 48 sampE
  refine cE_loop (fun (m : Nat) (ρ : Env) (w : World) => ∃ (vo : Value) (out : List Sample) (i : Nat) (p : Int) (bx : Bool) (st : Int), m = 65 - i ∧ ρ 0 = (.pointer (some ⟨g_c, 0, none⟩)) ∧ ρ 2 = (.slice none 0 0) ∧ ρ 3 = (.int .u64 (rnum bad b at_)) ∧ ρ 4 = vo ∧ ρ 5 = (.int .i64 st) ∧ ρ 6 = (.int .i64 (i : Int)) ∧ St w0 w (rowT 48 sampE vo out :: .blk g_c 66 #[(.string (str b)), (.int .i64 p), (.bool bx)] :: L) ∧ (CS b (rnum bad b at_) out i p bx st) ∧ ((rnum bad b at_) ≤ 64) ∧ ((i : Int) ≤ (rnum bad b at_))) id _ ⟨(.slice none 0 0), [], 0, (rto bad b at_), (rbad bad b at_), 0, rfl, rfl, rfl, rfl, rfl, rfl, (congrArg (Value.int .i64) (show 0 = _ from by omega)), hst, (by first | exact RS_start ha hb | exact RS_first hCS (by omega) (by omega) | exact RS_next hCS (by omega) (by omega) (by omega) wr_mod wr_mod wr_mod), (by omega), (by first | exact (rnum_r _ _ _).1 | omega)⟩ ?_
  rintro m324 ρ325 w326 ⟨vo, out, i, p, bx, st, hm324, q323_0, q323_2, q323_3, q323_4, q323_5, q323_6, hst, hCS, h64, hi⟩
  have hol := hCS.2.2.2.1
  have hnr := rnum_r bad b at_
  have hnr1 := rnum_r bx b p
  have hnr2 := rnum_r (rbad bx b p) b (rto bx b p)
  refine cE_seq ?_
  refine cE_seq ?_
  refine cE_region rfl ?_
  refine s_cons (op_move (.int .i64 (i : Int)) q323_6 ?_)
  refine s_cons (op_move (.int .u64 (rnum bad b at_)) q323_3 ?_)
  refine s_cons (op_conv (k := .u64) (a := (rnum bad b at_)) (wr ((rnum bad b at_))) Try.underlying3 (by rw [Try.underlying54]; rfl) rfl rfl ?_)
  refine s_cons (op_lss (k := .i64) (a := (i : Int)) (b := (wr ((rnum bad b at_)))) rfl rfl ?_)
  refine s_cons (op_move (.bool (decide ((i : Int) < (wr ((rnum bad b at_)))))) rfl ?_)
  rcases Bool.eq_false_or_eq_true (decide ((i : Int) < (wr ((rnum bad b at_))))) with b327 | b327
  · have c328 : (i : Int) < (wr ((rnum bad b at_))) := of_decide_eq_true b327
    refine s_yes 20 rfl (congrArg Value.bool b327) (op_move (.pointer (some ⟨g_c, 0, none⟩)) q323_0 ?_)
    refine s_yes 20 rfl (congrArg Value.bool b327) (op_nilCheck rfl ?_)
    refine s_yes 20 rfl (congrArg Value.bool b327) (op_fieldAddr (s := 0) Try.underlying66 rfl rfl Try.sizeOf4 rfl ?_)
    refine s_yes 20 rfl (congrArg Value.bool b327) (op_load1 (u := (.bool bx)) Try.isAgg4 rfl ((hst.cell 1 rfl).drop 2) ?_)
    refine s_yes 20 rfl (congrArg Value.bool b327) (op_not (b := bx) rfl ?_)
    refine s_cons (op_pick_t (.bool (!bx)) (congrArg Value.bool b327) rfl ?_)
    refine s_nil ?_
    refine then_n ?_
    rcases Bool.eq_false_or_eq_true bx with b329 | b329
    · refine cE_cond false (congrArg Value.bool (congrArg (! ·) b329)) (fun h => by cases h) (fun _ => ?_)
      refine cE_exit ?_
      refine then_x (then_x (block_hit (then_n ?_)))
      refine cE_seq ?_
      refine cE_region rfl ?_
      refine s_cons (op_move vo q323_4 ?_)
      refine s_cons (op_assign vo rfl ?_)
      refine s_nil ?_
      refine then_n ?_
      refine cE_ret ?_
      refine post_r _ (res1 (v := vo) rfl) ?_
      have hd := RB_end hCS (by first | exact Or.inl (by assumption) | exact Or.inr (by omega))
      exact ⟨vo, out, p, bx, rfl, hst.sub (.cons_cons _ (.cons_cons _ (List.Sublist.refl _))), hd⟩
    have hwn : wr (rnum bad b at_) = rnum bad b at_ := wr_id (by simp only [i64R]; omega)
    refine cE_cond true (congrArg Value.bool (congrArg (! ·) b329)) (fun _ => ?_) (fun h => by cases h)
    refine cE_skip ?_
    refine then_n ?_
    refine cE_seq ?_
    refine cE_block ?_
    refine cE_seq ?_
    refine cE_seq ?_
    refine cE_region rfl ?_
    refine s_cons (op_move (.int .i64 (i : Int)) q323_6 ?_)
    refine s_cons (op_eql (k := .i64) (a := (i : Int)) (b := 0) rfl rfl ?_)
    refine s_nil ?_
    refine then_n ?_
    rcases Bool.eq_false_or_eq_true (decide ((i : Int) = 0)) with b330 | b330
    · have c331 : (i : Int) = 0 := of_decide_eq_true b330
      refine cE_cond true (congrArg Value.bool b330) (fun _ => ?_) (fun h => by cases h)
      refine cE_seq ?_
      refine cE_region rfl ?_
      refine s_cons (op_move (.pointer (some ⟨g_c, 0, none⟩)) q323_0 ?_)
      replace hst : St w0 w326 (.blk g_c 66 #[(.string (str b)), (.int .i64 p), (.bool bx)] :: rowT 48 sampE vo out :: L) := hst.front 1 rfl
      refine s_cons (op_call Try.call41 (evs_cons (v := (.pointer (some ⟨g_c, 0, none⟩))) rfl evs_nil) (c_cNum (g_c := g_c) (b := b) (at_ := p) (bad := bx) (hl := hl) (hst := hst)) ?_)
      rintro _ w332 ⟨rfl, hcall⟩
      refine ⟨_, rfl, ?_⟩
      have hst : St w0 w332 (.blk g_c 66 #[(.string (str b)), (.int .i64 (rto bx b p)), (.bool (rbad bx b p))] :: rowT 48 sampE vo out :: L) := hcall
      refine s_cons (op_assign (.int .u64 (rnum bx b p)) rfl ?_)
      refine s_nil ?_
      refine then_n ?_
      refine cE_seq ?_
      refine cE_region rfl ?_
      refine s_cons (op_move vo q323_4 ?_)
      refine s_cons (op_move (.int .u64 (rnum bx b p)) rfl ?_)
      refine s_cons (op_conv (k := .u64) (a := (rnum bx b p)) (wr ((rnum bx b p))) Try.underlying2 (by rw [Try.underlying54]; rfl) rfl rfl ?_)
      refine s_cons (op_move (.pointer (some ⟨g_c, 0, none⟩)) q323_0 ?_)
      refine s_cons (op_call Try.call41 (evs_cons (v := (.pointer (some ⟨g_c, 0, none⟩))) rfl evs_nil) (c_cNum (g_c := g_c) (b := b) (at_ := (rto bx b p)) (bad := (rbad bx b p)) (hl := hl) (hst := hst)) ?_)
      rintro _ w333 ⟨rfl, hcall⟩
      refine ⟨_, rfl, ?_⟩
      have hst : St w0 w333 (.blk g_c 66 #[(.string (str b)), (.int .i64 (rto (rbad bx b p) b (rto bx b p))), (.bool (rbad (rbad bx b p) b (rto bx b p)))] :: rowT 48 sampE vo out :: L) := hcall
      refine s_cons (op_call Try.call42 (evs_cons (v := (.int .u64 (rnum (rbad bx b p) b (rto bx b p)))) rfl evs_nil) (c_rZag (w0 := w333) (n := (rnum (rbad bx b p) b (rto bx b p))) (h0 := (by omega)) (h1 := (by omega))) ?_)
      rintro _ w334 ⟨rfl, hcall⟩
      refine ⟨_, rfl, ?_⟩
      have hst : St w0 w334 (.blk g_c 66 #[(.string (str b)), (.int .i64 (rto (rbad bx b p) b (rto bx b p))), (.bool (rbad (rbad bx b p) b (rto bx b p)))] :: rowT 48 sampE vo out :: L) := hst.call hcall
      refine s_cons (op_build (r := (.agg #[(.int .i64 (wr ((rnum bx b p)))), (.int .i64 (zag (rnum (rbad bx b p) b (rto bx b p))))])) (evp_cons (v := (.int .i64 (wr ((rnum bx b p))))) rfl (evp_cons (v := (.int .i64 (zag (rnum (rbad bx b p) b (rto bx b p))))) rfl evp_nil)) (by simp [Instr.build, Instr.fill, Value.cells, Try.runUnderlying48, Try.zeroValue48]) ?_)
      refine s_cons (op_buildSlice (E := sampE) [(⟨(wr ((rnum bx b p))), (zag (rnum (rbad bx b p) b (rto bx b p)))⟩ : Sample)] hst Try.underlying22 Try.sizeOf48 Try.zeroValue48 (evp_cons (v := (.agg #[(.int .i64 (wr ((rnum bx b p)))), (.int .i64 (zag (rnum (rbad bx b p) b (rto bx b p))))])) rfl evp_nil) (parts_cons rfl parts_nil) rfl (by decide) (fun v335 w336 hst => ?_))
      replace hst : St w0 w336 (rowT 48 sampE v335 ([(⟨(wr ((rnum bx b p))), (zag (rnum (rbad bx b p) b (rto bx b p)))⟩ : Sample)]) :: .blk g_c 66 #[(.string (str b)), (.int .i64 (rto (rbad bx b p) b (rto bx b p))), (.bool (rbad (rbad bx b p) b (rto bx b p)))] :: rowT 48 sampE vo out :: L) := hst
      refine s_cons (op_append (E := sampE) (xs := out) (ys := [(⟨(wr ((rnum bx b p))), (zag (rnum (rbad bx b p) b (rto bx b p)))⟩ : Sample)]) (z := (.agg #[(.int .i64 0), (.int .i64 0)])) (bytes := 16) hst 2 rfl Try.underlying22 (by kernel_rfl) rfl rfl rfl (hst.sl 0 rfl) (by first | omega | (simp; omega) | (simp; done)) (by first | omega | (simp; omega) | (simp; done)) (fun v337 w338 hst => ?_))
      replace hst : St w0 w338 (rowT 48 sampE v335 ([(⟨(wr ((rnum bx b p))), (zag (rnum (rbad bx b p) b (rto bx b p)))⟩ : Sample)]) :: .blk g_c 66 #[(.string (str b)), (.int .i64 (rto (rbad bx b p) b (rto bx b p))), (.bool (rbad (rbad bx b p) b (rto bx b p)))] :: rowT 48 sampE v337 (out ++ ([(⟨(wr ((rnum bx b p))), (zag (rnum (rbad bx b p) b (rto bx b p)))⟩ : Sample)])) :: L) := hst
      refine s_cons (op_assign v337 rfl ?_)
      refine s_nil ?_
      refine then_n ?_
      refine cE_exit ?_
      refine then_x (block_hit (then_n ?_))
      refine cE_region rfl ?_
      refine s_cons (op_move (.int .i64 (i : Int)) q323_6 ?_)
      refine s_cons (op_add (k := .i64) (a := (i : Int)) (b := 1) ((i : Int) + 1) rfl rfl (xi64 (by omega) (by omega)) ?_)
      refine s_cons (op_assign (.int .i64 ((i : Int) + 1)) rfl ?_)
      refine s_nil ?_
      refine then_n ?_
      replace hst : St w0 w338 (.blk g_c 66 #[(.string (str b)), (.int .i64 (rto (rbad bx b p) b (rto bx b p))), (.bool (rbad (rbad bx b p) b (rto bx b p)))] :: rowT 48 sampE v335 ([(⟨(wr ((rnum bx b p))), (zag (rnum (rbad bx b p) b (rto bx b p)))⟩ : Sample)]) :: rowT 48 sampE v337 (out ++ ([(⟨(wr ((rnum bx b p))), (zag (rnum (rbad bx b p) b (rto bx b p)))⟩ : Sample)])) :: L) := hst.front 1 rfl
      replace hst : St w0 w338 (rowT 48 sampE v337 (out ++ ([(⟨(wr ((rnum bx b p))), (zag (rnum (rbad bx b p) b (rto bx b p)))⟩ : Sample)])) :: .blk g_c 66 #[(.string (str b)), (.int .i64 (rto (rbad bx b p) b (rto bx b p))), (.bool (rbad (rbad bx b p) b (rto bx b p)))] :: rowT 48 sampE v335 ([(⟨(wr ((rnum bx b p))), (zag (rnum (rbad bx b p) b (rto bx b p)))⟩ : Sample)]) :: L) := hst.front 2 rfl
      exact ⟨_, ⟨v337, (out ++ ([(⟨(wr ((rnum bx b p))), (zag (rnum (rbad bx b p) b (rto bx b p)))⟩ : Sample)])), (i + 1), (rto (rbad bx b p) b (rto bx b p)), (rbad (rbad bx b p) b (rto bx b p)), st, rfl, q323_0, q323_2, q323_3, rfl, q323_5, (congrArg (Value.int .i64) (show ((i : Int) + 1) = _ from by omega)), (hst.sub (.cons_cons _ (.cons_cons _ (.cons _ (List.Sublist.refl _))))), (by first | exact RS_start ha hb | exact RS_first hCS (by omega) (by omega) | exact RS_next hCS (by omega) (by omega) (by omega) wr_mod wr_mod wr_mod), (by omega), (by first | exact (rnum_r _ _ _).1 | omega)⟩, (by simp only [id]; omega)⟩
    have c339 : ¬ ((i : Int) = 0) := of_decide_eq_false b330
    refine cE_cond false (congrArg Value.bool b330) (fun h => by cases h) (fun _ => ?_)
    refine cE_skip ?_
    refine then_n ?_
    refine cE_seq ?_
    refine cE_region rfl ?_
    refine s_cons (op_move (.int .i64 st) q323_5 ?_)
    refine s_cons (op_conv (k := .i64) (a := st) (st % 18446744073709551616) Try.underlying54 (by rw [Try.underlying2]; rfl) rfl (IntKind.wrap_u64 _) ?_)
    refine s_cons (op_move (.pointer (some ⟨g_c, 0, none⟩)) q323_0 ?_)
    replace hst : St w0 w326 (.blk g_c 66 #[(.string (str b)), (.int .i64 p), (.bool bx)] :: rowT 48 sampE vo out :: L) := hst.front 1 rfl
    refine s_cons (op_call Try.call41 (evs_cons (v := (.pointer (some ⟨g_c, 0, none⟩))) rfl evs_nil) (c_cNum (g_c := g_c) (b := b) (at_ := p) (bad := bx) (hl := hl) (hst := hst)) ?_)
    rintro _ w340 ⟨rfl, hcall⟩
    refine ⟨_, rfl, ?_⟩
    have hst : St w0 w340 (.blk g_c 66 #[(.string (str b)), (.int .i64 (rto bx b p)), (.bool (rbad bx b p))] :: rowT 48 sampE vo out :: L) := hcall
    refine s_cons (op_call Try.call42 (evs_cons (v := (.int .u64 (rnum bx b p))) rfl evs_nil) (c_rZag (w0 := w340) (n := (rnum bx b p)) (h0 := (by omega)) (h1 := (by omega))) ?_)
    rintro _ w341 ⟨rfl, hcall⟩
    refine ⟨_, rfl, ?_⟩
    have hst : St w0 w341 (.blk g_c 66 #[(.string (str b)), (.int .i64 (rto bx b p)), (.bool (rbad bx b p))] :: rowT 48 sampE vo out :: L) := hst.call hcall
    refine s_cons (op_conv (k := .i64) (a := (zag (rnum bx b p))) ((zag (rnum bx b p)) % 18446744073709551616) Try.underlying54 (by rw [Try.underlying2]; rfl) rfl (IntKind.wrap_u64 _) ?_)
    refine s_cons (op_add (k := .u64) (a := (st % 18446744073709551616)) (b := ((zag (rnum bx b p)) % 18446744073709551616)) (((st % 18446744073709551616) + ((zag (rnum bx b p)) % 18446744073709551616)) % 18446744073709551616) rfl rfl (IntKind.wrap_u64 _) ?_)
    refine s_cons (op_conv (k := .u64) (a := (((st % 18446744073709551616) + ((zag (rnum bx b p)) % 18446744073709551616)) % 18446744073709551616)) (wr ((((st % 18446744073709551616) + ((zag (rnum bx b p)) % 18446744073709551616)) % 18446744073709551616))) Try.underlying2 (by rw [Try.underlying54]; rfl) rfl rfl ?_)
    refine s_cons (op_assign (.int .i64 (wr ((((st % 18446744073709551616) + ((zag (rnum bx b p)) % 18446744073709551616)) % 18446744073709551616)))) rfl ?_)
    refine s_nil ?_
    refine then_n ?_
    refine cE_seq ?_
    have hM349 : stabML [8] [(kEq vo), (kEq (.int .i64 (i : Int))), (kEq (.int .i64 ((i : Int) - 1))), (kRow vo ((i - 1) * sampE.size)), (kRow vo (((i - 1) * sampE.size) + 1)), (kEq (.int .i64 ((out[(i - 1)]'(by first | omega | (simp; omega) | (simp; done))).V))), (kEq (.int .u64 ((out[(i - 1)]'(by first | omega | (simp; omega) | (simp; done))).V % 18446744073709551616))), (kEq (.pointer (some ⟨g_c, 0, none⟩))), (kEq (.int .u64 (rnum (rbad bx b p) b (rto bx b p)))), (kEq (.int .i64 (zag (rnum (rbad bx b p) b (rto bx b p))))), (kEq (.int .u64 ((zag (rnum (rbad bx b p) b (rto bx b p))) % 18446744073709551616))), (kEq (.int .u64 ((((out[(i - 1)]'(by first | omega | (simp; omega) | (simp; done))).V % 18446744073709551616) + ((zag (rnum (rbad bx b p) b (rto bx b p))) % 18446744073709551616)) % 18446744073709551616))), (kEq (.int .i64 (wr (((((out[(i - 1)]'(by first | omega | (simp; omega) | (simp; done))).V % 18446744073709551616) + ((zag (rnum (rbad bx b p) b (rto bx b p))) % 18446744073709551616)) % 18446744073709551616))))), (kEq (.int .i64 (wr (((((out[(i - 1)]'(by first | omega | (simp; omega) | (simp; done))).V % 18446744073709551616) + ((zag (rnum (rbad bx b p) b (rto bx b p))) % 18446744073709551616)) % 18446744073709551616)))))] := ⟨mEq, mEq, mEq, mRow, mRow, mEq, mEq, mEq, mEq, mEq, mEq, mEq, mEq, mEq, trivial⟩
    refine cE_regionK (fun (D : Nat → Bool) (w : World) => St w0 w (rowT 48 sampE vo out :: L) ∧ (D 8 = false → St w0 w (.blk g_c 66 #[(.string (str b)), (.int .i64 (rto bx b p)), (.bool (rbad bx b p))] :: rowT 48 sampE vo out :: L)) ∧ (D 8 = true → St w0 w (.blk g_c 66 #[(.string (str b)), (.int .i64 (rto (rbad bx b p) b (rto bx b p))), (.bool (rbad (rbad bx b p) b (rto bx b p)))] :: rowT 48 sampE vo out :: L))) [[(4, none)], [(6, none)], [(51, some 1)], [(50, some 0), (52, some 2)], [(53, some 3)], [(54, some 4)], [(55, some 5)], [(0, none)], [(57, some 7)], [(58, some 8)], [(59, some 9)], [(56, some 6), (60, some 10)], [(61, some 11)], [(62, some 12)]] (RofK [(kEq vo), (kEq (.int .i64 (i : Int))), (kEq (.int .i64 ((i : Int) - 1))), (kRow vo ((i - 1) * sampE.size)), (kRow vo (((i - 1) * sampE.size) + 1)), (kEq (.int .i64 ((out[(i - 1)]'(by first | omega | (simp; omega) | (simp; done))).V))), (kEq (.int .u64 ((out[(i - 1)]'(by first | omega | (simp; omega) | (simp; done))).V % 18446744073709551616))), (kEq (.pointer (some ⟨g_c, 0, none⟩))), (kEq (.int .u64 (rnum (rbad bx b p) b (rto bx b p)))), (kEq (.int .i64 (zag (rnum (rbad bx b p) b (rto bx b p))))), (kEq (.int .u64 ((zag (rnum (rbad bx b p) b (rto bx b p))) % 18446744073709551616))), (kEq (.int .u64 ((((out[(i - 1)]'(by first | omega | (simp; omega) | (simp; done))).V % 18446744073709551616) + ((zag (rnum (rbad bx b p) b (rto bx b p))) % 18446744073709551616)) % 18446744073709551616))), (kEq (.int .i64 (wr (((((out[(i - 1)]'(by first | omega | (simp; omega) | (simp; done))).V % 18446744073709551616) + ((zag (rnum (rbad bx b p) b (rto bx b p))) % 18446744073709551616)) % 18446744073709551616))))), (kEq (.int .i64 (wr (((((out[(i - 1)]'(by first | omega | (simp; omega) | (simp; done))).V % 18446744073709551616) + ((zag (rnum (rbad bx b p) b (rto bx b p))) % 18446744073709551616)) % 18446744073709551616)))))]) (by kernel_rfl) rfl (by kernel_rfl) ⟨hst.drewW.sub (.cons _ (.cons_cons _ (List.Sublist.refl _))), (fun _ => hst.drewW), (fun h => absurd h Bool.false_ne_true)⟩ ⟨?_, ?_, ?_, ?_, ?_, ?_, ?_, ?_, ?_, ?_, ?_, ?_, ?_, ?_, trivial⟩ ?_
    · rintro D351 ρ352 w353 hD354 hE355 hC356 hJ357 hA358 ⟨f4, _⟩
      have hst := hJ357.1
      exact go_plain (op_move vo (f4.trans q323_4) (kN0 (i := 0) hM349 (by decide) (by exact hJ357) (by exact rfl)))
    · rintro D359 ρ360 w361 hD362 hE363 hC364 hJ365 hA366 ⟨f6, _⟩
      have hst := hJ365.1
      exact go_plain (op_move (.int .i64 (i : Int)) (f6.trans q323_6) (kN0 (i := 1) hM349 (by decide) (by exact hJ365) (by exact rfl)))
    · rintro D367 ρ368 w369 hD370 hE371 hC372 hJ373 hA374 ⟨f51, _⟩
      have hst := hJ373.1
      exact go_plain (op_sub (k := .i64) (a := (i : Int)) (b := 1) ((i : Int) - 1) f51 rfl (xi64 (by omega) (by omega)) (kN0 (i := 2) hM349 (by decide) (by exact hJ373) (by exact rfl)))
    · rintro D375 ρ376 w377 hD378 hE379 hC380 hJ381 hA382 ⟨f50, f52, _⟩
      have hst := hJ381.1
      refine go_plain (op_indexRowN hst 0 rfl (i - 1) Try.underlying22 Try.sizeOf48 f50 f52 (by omega) (by first | omega | (simp; omega) | (simp; done)) (fun g387 hb386 p385 => ?_))
      exact (kN0 (i := 3) hM349 (by decide) (by exact hJ381) (by exact ⟨_, hb386, rfl⟩))
    · rintro D388 ρ389 w390 hD391 hE392 hC393 hJ394 hA395 ⟨f53, _⟩
      have hst := hJ394.1
      obtain ⟨g396, hb398, e397⟩ := f53
      exact go_plain (op_fieldAddr (s := 0) Try.underlying48 rfl rfl Try.sizeOf2 e397 (kN0 (i := 4) hM349 (by decide) (by exact hJ394) (by exact ⟨_, hb398, rfl⟩)))
    · rintro D399 ρ400 w401 hD402 hE403 hC404 hJ405 hA406 ⟨f54, _⟩
      have hst := hJ405.1
      obtain ⟨g407, hb409, e408⟩ := f54
      exact go_plain (op_load1 (u := (.int .i64 ((out[(i - 1)]'(by first | omega | (simp; omega) | (simp; done))).V))) Try.isAgg2 e408 ((hst.elt 0 rfl hb409 (i - 1) (by first | omega | (simp; omega) | (simp; done))).drop 1) (kN0 (i := 5) hM349 (by decide) (by exact hJ405) (by exact rfl)))
    · rintro D410 ρ411 w412 hD413 hE414 hC415 hJ416 hA417 ⟨f55, _⟩
      have hst := hJ416.1
      exact go_plain (op_conv (k := .i64) (a := (out[(i - 1)]'(by first | omega | (simp; omega) | (simp; done))).V) ((out[(i - 1)]'(by first | omega | (simp; omega) | (simp; done))).V % 18446744073709551616) Try.underlying54 (by rw [Try.underlying2]; rfl) f55 (IntKind.wrap_u64 _) (kN0 (i := 6) hM349 (by decide) (by exact hJ416) (by exact rfl)))
    · rintro D418 ρ419 w420 hD421 hE422 hC423 hJ424 hA425 ⟨f0, _⟩
      have hst := hJ424.2.1 (not_yet hD421 (fun hm => (hC423 8 7 hm (by kernel_rfl))))
      replace hst : St w0 w420 (.blk g_c 66 #[(.string (str b)), (.int .i64 (rto bx b p)), (.bool (rbad bx b p))] :: rowT 48 sampE vo out :: L) := hst
      exact go_plain (op_move (.pointer (some ⟨g_c, 0, none⟩)) (f0.trans q323_0) (kN0 (i := 7) hM349 (by decide) (by exact hJ424) (by exact rfl)))
    · rintro D426 ρ427 w428 hD429 hE430 hC431 hJ432 hA433 ⟨f57, _⟩
      have hst := hJ432.2.1 hD429
      replace hst : St w0 w428 (.blk g_c 66 #[(.string (str b)), (.int .i64 (rto bx b p)), (.bool (rbad bx b p))] :: rowT 48 sampE vo out :: L) := hst
      refine go_plain (op_call Try.call41 (evs_cons (v := (.pointer (some ⟨g_c, 0, none⟩))) f57 evs_nil) (c_cNum (g_c := g_c) (b := b) (at_ := (rto bx b p)) (bad := (rbad bx b p)) (hl := hl) (hst := hst)) ?_)
      rintro _ w434 ⟨rfl, hcall⟩
      refine ⟨_, rfl, ?_⟩
      have hst : St w0 w434 (.blk g_c 66 #[(.string (str b)), (.int .i64 (rto (rbad bx b p) b (rto bx b p))), (.bool (rbad (rbad bx b p) b (rto bx b p)))] :: rowT 48 sampE vo out :: L) := hcall
      have hI435 : stabIXs 8 [] D426 0 [(kEq vo), (kEq (.int .i64 (i : Int))), (kEq (.int .i64 ((i : Int) - 1))), (kRow vo ((i - 1) * sampE.size)), (kRow vo (((i - 1) * sampE.size) + 1)), (kEq (.int .i64 ((out[(i - 1)]'(by first | omega | (simp; omega) | (simp; done))).V))), (kEq (.int .u64 ((out[(i - 1)]'(by first | omega | (simp; omega) | (simp; done))).V % 18446744073709551616))), (kEq (.pointer (some ⟨g_c, 0, none⟩))), (kEq (.int .u64 (rnum (rbad bx b p) b (rto bx b p)))), (kEq (.int .i64 (zag (rnum (rbad bx b p) b (rto bx b p))))), (kEq (.int .u64 ((zag (rnum (rbad bx b p) b (rto bx b p))) % 18446744073709551616))), (kEq (.int .u64 ((((out[(i - 1)]'(by first | omega | (simp; omega) | (simp; done))).V % 18446744073709551616) + ((zag (rnum (rbad bx b p) b (rto bx b p))) % 18446744073709551616)) % 18446744073709551616))), (kEq (.int .i64 (wr (((((out[(i - 1)]'(by first | omega | (simp; omega) | (simp; done))).V % 18446744073709551616) + ((zag (rnum (rbad bx b p) b (rto bx b p))) % 18446744073709551616)) % 18446744073709551616))))), (kEq (.int .i64 (wr (((((out[(i - 1)]'(by first | omega | (simp; omega) | (simp; done))).V % 18446744073709551616) + ((zag (rnum (rbad bx b p) b (rto bx b p))) % 18446744073709551616)) % 18446744073709551616)))))] := ⟨Or.inr (Or.inr (Or.inr iEq)), Or.inr (Or.inr (Or.inr iEq)), Or.inr (Or.inr (Or.inr iEq)), Or.inr (Or.inr (Or.inr iRow)), Or.inr (Or.inr (Or.inr iRow)), Or.inr (Or.inr (Or.inr iEq)), Or.inr (Or.inr (Or.inr iEq)), Or.inr (Or.inr (Or.inr iEq)), Or.inl rfl, Or.inr (Or.inr (Or.inl (not_yet hD429 (fun hm => (hC431 9 8 hm (by kernel_rfl)))))), Or.inr (Or.inr (Or.inl (not_yet hD429 (fun hm => (hC431 9 8 (hC431 10 9 hm (by kernel_rfl)) (by kernel_rfl)))))), Or.inr (Or.inr (Or.inl (not_yet hD429 (fun hm => (hC431 9 8 (hC431 10 9 (hC431 11 10 hm (by kernel_rfl)) (by kernel_rfl)) (by kernel_rfl)))))), Or.inr (Or.inr (Or.inl (not_yet hD429 (fun hm => (hC431 9 8 (hC431 10 9 (hC431 11 10 (hC431 12 11 hm (by kernel_rfl)) (by kernel_rfl)) (by kernel_rfl)) (by kernel_rfl)))))), Or.inr (Or.inr (Or.inl (not_yet hD429 (fun hm => (hC431 13 8 hm (by kernel_rfl)))))), trivial⟩
      refine ⟨by exact ⟨hst.sub (.cons _ (.cons_cons _ (List.Sublist.refl _))), (fun y0 => absurd y0 (fun h => Bool.noConfusion h)), (fun y0 => hst.sub (.cons_cons _ (.cons_cons _ (List.Sublist.refl _))))⟩, by exact rfl, kX [] hI435 ?_⟩
      intro j d hj; cases hj
    · rintro D436 ρ437 w438 hD439 hE440 hC441 hJ442 hA443 ⟨f58, _⟩
      have hst := hJ442.2.2 (hE440 8 (by kernel_rfl))
      replace hst : St w0 w438 (.blk g_c 66 #[(.string (str b)), (.int .i64 (rto (rbad bx b p) b (rto bx b p))), (.bool (rbad (rbad bx b p) b (rto bx b p)))] :: rowT 48 sampE vo out :: L) := hst
      refine go_plain (op_call Try.call42 (evs_cons (v := (.int .u64 (rnum (rbad bx b p) b (rto bx b p)))) f58 evs_nil) (c_rZag (w0 := w438) (n := (rnum (rbad bx b p) b (rto bx b p))) (h0 := (by omega)) (h1 := (by omega))) ?_)
      rintro _ w444 ⟨rfl, hcall⟩
      refine ⟨_, rfl, ?_⟩
      exact kN (i := 9) hM349 (by decide) hcall.below (by exact ⟨(hJ442.1).ext hcall.below, (fun x0 => (hJ442.2.1 x0).ext hcall.below), (fun x0 => (hJ442.2.2 x0).ext hcall.below)⟩) (by exact rfl)
    · rintro D445 ρ446 w447 hD448 hE449 hC450 hJ451 hA452 ⟨f59, _⟩
      have hst := hJ451.2.2 (hC450 9 8 (hE449 9 (by kernel_rfl)) (by kernel_rfl))
      replace hst : St w0 w447 (.blk g_c 66 #[(.string (str b)), (.int .i64 (rto (rbad bx b p) b (rto bx b p))), (.bool (rbad (rbad bx b p) b (rto bx b p)))] :: rowT 48 sampE vo out :: L) := hst
      exact go_plain (op_conv (k := .i64) (a := (zag (rnum (rbad bx b p) b (rto bx b p)))) ((zag (rnum (rbad bx b p) b (rto bx b p))) % 18446744073709551616) Try.underlying54 (by rw [Try.underlying2]; rfl) f59 (IntKind.wrap_u64 _) (kN0 (i := 10) hM349 (by decide) (by exact hJ451) (by exact rfl)))
    · rintro D453 ρ454 w455 hD456 hE457 hC458 hJ459 hA460 ⟨f56, f60, _⟩
      have hst := hJ459.2.2 (hC458 9 8 (hC458 10 9 (hE457 10 (by kernel_rfl)) (by kernel_rfl)) (by kernel_rfl))
      replace hst : St w0 w455 (.blk g_c 66 #[(.string (str b)), (.int .i64 (rto (rbad bx b p) b (rto bx b p))), (.bool (rbad (rbad bx b p) b (rto bx b p)))] :: rowT 48 sampE vo out :: L) := hst
      exact go_plain (op_add (k := .u64) (a := ((out[(i - 1)]'(by first | omega | (simp; omega) | (simp; done))).V % 18446744073709551616)) (b := ((zag (rnum (rbad bx b p) b (rto bx b p))) % 18446744073709551616)) ((((out[(i - 1)]'(by first | omega | (simp; omega) | (simp; done))).V % 18446744073709551616) + ((zag (rnum (rbad bx b p) b (rto bx b p))) % 18446744073709551616)) % 18446744073709551616) f56 f60 (IntKind.wrap_u64 _) (kN0 (i := 11) hM349 (by decide) (by exact hJ459) (by exact rfl)))
    · rintro D461 ρ462 w463 hD464 hE465 hC466 hJ467 hA468 ⟨f61, _⟩
      have hst := hJ467.2.2 (hC466 9 8 (hC466 10 9 (hC466 11 10 (hE465 11 (by kernel_rfl)) (by kernel_rfl)) (by kernel_rfl)) (by kernel_rfl))
      replace hst : St w0 w463 (.blk g_c 66 #[(.string (str b)), (.int .i64 (rto (rbad bx b p) b (rto bx b p))), (.bool (rbad (rbad bx b p) b (rto bx b p)))] :: rowT 48 sampE vo out :: L) := hst
      exact go_plain (op_conv (k := .u64) (a := ((((out[(i - 1)]'(by first | omega | (simp; omega) | (simp; done))).V % 18446744073709551616) + ((zag (rnum (rbad bx b p) b (rto bx b p))) % 18446744073709551616)) % 18446744073709551616)) (wr (((((out[(i - 1)]'(by first | omega | (simp; omega) | (simp; done))).V % 18446744073709551616) + ((zag (rnum (rbad bx b p) b (rto bx b p))) % 18446744073709551616)) % 18446744073709551616))) Try.underlying2 (by rw [Try.underlying54]; rfl) f61 rfl (kN0 (i := 12) hM349 (by decide) (by exact hJ467) (by exact rfl)))
    · rintro D469 ρ470 w471 hD472 hE473 hC474 hJ475 hA476 ⟨f62, _⟩
      have hst := hJ475.2.2 (hE473 8 (by kernel_rfl))
      replace hst : St w0 w471 (.blk g_c 66 #[(.string (str b)), (.int .i64 (rto (rbad bx b p) b (rto bx b p))), (.bool (rbad (rbad bx b p) b (rto bx b p)))] :: rowT 48 sampE vo out :: L) := hst
      exact go_plain (op_assign (.int .i64 (wr (((((out[(i - 1)]'(by first | omega | (simp; omega) | (simp; done))).V % 18446744073709551616) + ((zag (rnum (rbad bx b p) b (rto bx b p))) % 18446744073709551616)) % 18446744073709551616)))) f62 (kN0 (i := 13) hM349 (by decide) (by exact hJ475) (by exact rfl)))
    intro ρ477 w478 Dw478 hallw478 hJw478 hRw478 hkw478
    have hst : St w0 w478 (.blk g_c 66 #[(.string (str b)), (.int .i64 (rto (rbad bx b p) b (rto bx b p))), (.bool (rbad (rbad bx b p) b (rto bx b p)))] :: rowT 48 sampE vo out :: L) := hJw478.2.2 (hallw478 8 (show 8 < 14 from by decide))
    have uw478_0 : ρ477 0 = (.pointer (some ⟨g_c, 0, none⟩)) := (hkw478 0 rfl).trans q323_0
    have uw478_2 : ρ477 2 = (.slice none 0 0) := (hkw478 2 rfl).trans q323_2
    have uw478_3 : ρ477 3 = (.int .u64 (rnum bad b at_)) := (hkw478 3 rfl).trans q323_3
    have uw478_4 : ρ477 4 = vo := (hkw478 4 rfl).trans q323_4
    have uw478_5 : ρ477 5 = (.int .i64 (wr ((((st % 18446744073709551616) + ((zag (rnum bx b p)) % 18446744073709551616)) % 18446744073709551616)))) := (hkw478 5 rfl).trans rfl
    have uw478_6 : ρ477 6 = (.int .i64 (i : Int)) := (hkw478 6 rfl).trans q323_6
    have uw478_16 : ρ477 16 = (.int .i64 (i : Int)) := (hkw478 16 rfl).trans rfl
    have uw478_17 : ρ477 17 = (.int .u64 (rnum bad b at_)) := (hkw478 17 rfl).trans rfl
    have uw478_18 : ρ477 18 = (.int .i64 (wr ((rnum bad b at_)))) := (hkw478 18 rfl).trans rfl
    have uw478_19 : ρ477 19 = (.bool (decide ((i : Int) < (wr ((rnum bad b at_)))))) := (hkw478 19 rfl).trans rfl
    have uw478_20 : ρ477 20 = (.bool (decide ((i : Int) < (wr ((rnum bad b at_)))))) := (hkw478 20 rfl).trans rfl
    have uw478_21 : ρ477 21 = (.pointer (some ⟨g_c, 0, none⟩)) := (hkw478 21 rfl).trans rfl
    have uw478_22 : ρ477 22 = (.pointer (some ⟨g_c, 0, none⟩)) := (hkw478 22 rfl).trans rfl
    have uw478_23 : ρ477 23 = (.pointer (some ⟨g_c, (0 + 2), none⟩)) := (hkw478 23 rfl).trans rfl
    have uw478_24 : ρ477 24 = (.bool bx) := (hkw478 24 rfl).trans rfl
    have uw478_25 : ρ477 25 = (.bool (!bx)) := (hkw478 25 rfl).trans rfl
    have uw478_26 : ρ477 26 = (.bool (!bx)) := (hkw478 26 rfl).trans rfl
    have uw478_29 : ρ477 29 = (.int .i64 (i : Int)) := (hkw478 29 rfl).trans rfl
    have uw478_30 : ρ477 30 = (.bool (decide ((i : Int) = 0))) := (hkw478 30 rfl).trans rfl
    have uw478_42 : ρ477 42 = (.int .i64 st) := (hkw478 42 rfl).trans rfl
    have uw478_43 : ρ477 43 = (.int .u64 (st % 18446744073709551616)) := (hkw478 43 rfl).trans rfl
    have uw478_44 : ρ477 44 = (.pointer (some ⟨g_c, 0, none⟩)) := (hkw478 44 rfl).trans rfl
    have uw478_45 : ρ477 45 = (.int .u64 (rnum bx b p)) := (hkw478 45 rfl).trans rfl
    have uw478_46 : ρ477 46 = (.int .i64 (zag (rnum bx b p))) := (hkw478 46 rfl).trans rfl
    have uw478_47 : ρ477 47 = (.int .u64 ((zag (rnum bx b p)) % 18446744073709551616)) := (hkw478 47 rfl).trans rfl
    have uw478_48 : ρ477 48 = (.int .u64 (((st % 18446744073709551616) + ((zag (rnum bx b p)) % 18446744073709551616)) % 18446744073709551616)) := (hkw478 48 rfl).trans rfl
    have uw478_49 : ρ477 49 = (.int .i64 (wr ((((st % 18446744073709551616) + ((zag (rnum bx b p)) % 18446744073709551616)) % 18446744073709551616)))) := (hkw478 49 rfl).trans rfl
    have uw478_8 : ρ477 8 = (.int .i64 (wr (((((out[(i - 1)]'(by first | omega | (simp; omega) | (simp; done))).V % 18446744073709551616) + ((zag (rnum (rbad bx b p) b (rto bx b p))) % 18446744073709551616)) % 18446744073709551616)))) := hRw478 13 8 rfl
    refine then_n ?_
    refine cE_region rfl ?_
    refine s_cons (op_move vo uw478_4 ?_)
    refine s_cons (op_move vo uw478_4 ?_)
    refine s_cons (op_move (.int .i64 (i : Int)) uw478_6 ?_)
    refine s_cons (op_sub (k := .i64) (a := (i : Int)) (b := 1) ((i : Int) - 1) rfl rfl (xi64 (by omega) (by omega)) ?_)
    refine s_cons (op_indexAddrN (E := sampE) (xs := out) (i - 1) Try.underlying22 Try.sizeOf48 rfl (hst.sl 1 rfl) rfl (by omega) (by first | omega | (simp; omega) | (simp; done)) (fun a479 o480 p481 => ?_))
    refine s_cons (op_fieldAddr (s := 0) Try.underlying48 rfl rfl Try.sizeOf2 rfl ?_)
    refine s_cons (op_load1 (u := (.int .i64 ((out[(i - 1)]'(by first | omega | (simp; omega) | (simp; done))).T))) Try.isAgg2 rfl p481 ?_)
    refine s_cons (op_conv (k := .i64) (a := (out[(i - 1)]'(by first | omega | (simp; omega) | (simp; done))).T) ((out[(i - 1)]'(by first | omega | (simp; omega) | (simp; done))).T % 18446744073709551616) Try.underlying54 (by rw [Try.underlying2]; rfl) rfl (IntKind.wrap_u64 _) ?_)
    refine s_cons (op_move (.int .i64 (wr ((((st % 18446744073709551616) + ((zag (rnum bx b p)) % 18446744073709551616)) % 18446744073709551616)))) uw478_5 ?_)
    refine s_cons (op_conv (k := .i64) (a := (wr ((((st % 18446744073709551616) + ((zag (rnum bx b p)) % 18446744073709551616)) % 18446744073709551616)))) ((wr ((((st % 18446744073709551616) + ((zag (rnum bx b p)) % 18446744073709551616)) % 18446744073709551616))) % 18446744073709551616) Try.underlying54 (by rw [Try.underlying2]; rfl) rfl (IntKind.wrap_u64 _) ?_)
    refine s_cons (op_add (k := .u64) (a := ((out[(i - 1)]'(by first | omega | (simp; omega) | (simp; done))).T % 18446744073709551616)) (b := ((wr ((((st % 18446744073709551616) + ((zag (rnum bx b p)) % 18446744073709551616)) % 18446744073709551616))) % 18446744073709551616)) ((((out[(i - 1)]'(by first | omega | (simp; omega) | (simp; done))).T % 18446744073709551616) + ((wr ((((st % 18446744073709551616) + ((zag (rnum bx b p)) % 18446744073709551616)) % 18446744073709551616))) % 18446744073709551616)) % 18446744073709551616) rfl rfl (IntKind.wrap_u64 _) ?_)
    refine s_cons (op_conv (k := .u64) (a := ((((out[(i - 1)]'(by first | omega | (simp; omega) | (simp; done))).T % 18446744073709551616) + ((wr ((((st % 18446744073709551616) + ((zag (rnum bx b p)) % 18446744073709551616)) % 18446744073709551616))) % 18446744073709551616)) % 18446744073709551616)) (wr (((((out[(i - 1)]'(by first | omega | (simp; omega) | (simp; done))).T % 18446744073709551616) + ((wr ((((st % 18446744073709551616) + ((zag (rnum bx b p)) % 18446744073709551616)) % 18446744073709551616))) % 18446744073709551616)) % 18446744073709551616))) Try.underlying2 (by rw [Try.underlying54]; rfl) rfl rfl ?_)
    refine s_cons (op_move (.int .i64 (wr (((((out[(i - 1)]'(by first | omega | (simp; omega) | (simp; done))).V % 18446744073709551616) + ((zag (rnum (rbad bx b p) b (rto bx b p))) % 18446744073709551616)) % 18446744073709551616)))) uw478_8 ?_)
    refine s_cons (op_build (r := (.agg #[(.int .i64 (wr (((((out[(i - 1)]'(by first | omega | (simp; omega) | (simp; done))).T % 18446744073709551616) + ((wr ((((st % 18446744073709551616) + ((zag (rnum bx b p)) % 18446744073709551616)) % 18446744073709551616))) % 18446744073709551616)) % 18446744073709551616)))), (.int .i64 (wr (((((out[(i - 1)]'(by first | omega | (simp; omega) | (simp; done))).V % 18446744073709551616) + ((zag (rnum (rbad bx b p) b (rto bx b p))) % 18446744073709551616)) % 18446744073709551616))))])) (evp_cons (v := (.int .i64 (wr (((((out[(i - 1)]'(by first | omega | (simp; omega) | (simp; done))).T % 18446744073709551616) + ((wr ((((st % 18446744073709551616) + ((zag (rnum bx b p)) % 18446744073709551616)) % 18446744073709551616))) % 18446744073709551616)) % 18446744073709551616))))) rfl (evp_cons (v := (.int .i64 (wr (((((out[(i - 1)]'(by first | omega | (simp; omega) | (simp; done))).V % 18446744073709551616) + ((zag (rnum (rbad bx b p) b (rto bx b p))) % 18446744073709551616)) % 18446744073709551616))))) rfl evp_nil)) (by simp [Instr.build, Instr.fill, Value.cells, Try.runUnderlying48, Try.zeroValue48]) ?_)
    refine s_cons (op_buildSlice (E := sampE) [(⟨(wr (((((out[(i - 1)]'(by first | omega | (simp; omega) | (simp; done))).T % 18446744073709551616) + ((wr ((((st % 18446744073709551616) + ((zag (rnum bx b p)) % 18446744073709551616)) % 18446744073709551616))) % 18446744073709551616)) % 18446744073709551616))), (wr (((((out[(i - 1)]'(by first | omega | (simp; omega) | (simp; done))).V % 18446744073709551616) + ((zag (rnum (rbad bx b p) b (rto bx b p))) % 18446744073709551616)) % 18446744073709551616)))⟩ : Sample)] hst Try.underlying22 Try.sizeOf48 Try.zeroValue48 (evp_cons (v := (.agg #[(.int .i64 (wr (((((out[(i - 1)]'(by first | omega | (simp; omega) | (simp; done))).T % 18446744073709551616) + ((wr ((((st % 18446744073709551616) + ((zag (rnum bx b p)) % 18446744073709551616)) % 18446744073709551616))) % 18446744073709551616)) % 18446744073709551616)))), (.int .i64 (wr (((((out[(i - 1)]'(by first | omega | (simp; omega) | (simp; done))).V % 18446744073709551616) + ((zag (rnum (rbad bx b p) b (rto bx b p))) % 18446744073709551616)) % 18446744073709551616))))])) rfl evp_nil) (parts_cons rfl parts_nil) rfl (by decide) (fun v482 w483 hst => ?_))
    replace hst : St w0 w483 (rowT 48 sampE v482 ([(⟨(wr (((((out[(i - 1)]'(by first | omega | (simp; omega) | (simp; done))).T % 18446744073709551616) + ((wr ((((st % 18446744073709551616) + ((zag (rnum bx b p)) % 18446744073709551616)) % 18446744073709551616))) % 18446744073709551616)) % 18446744073709551616))), (wr (((((out[(i - 1)]'(by first | omega | (simp; omega) | (simp; done))).V % 18446744073709551616) + ((zag (rnum (rbad bx b p) b (rto bx b p))) % 18446744073709551616)) % 18446744073709551616)))⟩ : Sample)]) :: .blk g_c 66 #[(.string (str b)), (.int .i64 (rto (rbad bx b p) b (rto bx b p))), (.bool (rbad (rbad bx b p) b (rto bx b p)))] :: rowT 48 sampE vo out :: L) := hst
    refine s_cons (op_append (E := sampE) (xs := out) (ys := [(⟨(wr (((((out[(i - 1)]'(by first | omega | (simp; omega) | (simp; done))).T % 18446744073709551616) + ((wr ((((st % 18446744073709551616) + ((zag (rnum bx b p)) % 18446744073709551616)) % 18446744073709551616))) % 18446744073709551616)) % 18446744073709551616))), (wr (((((out[(i - 1)]'(by first | omega | (simp; omega) | (simp; done))).V % 18446744073709551616) + ((zag (rnum (rbad bx b p) b (rto bx b p))) % 18446744073709551616)) % 18446744073709551616)))⟩ : Sample)]) (z := (.agg #[(.int .i64 0), (.int .i64 0)])) (bytes := 16) hst 2 rfl Try.underlying22 (by kernel_rfl) rfl rfl rfl (hst.sl 0 rfl) (by first | omega | (simp; omega) | (simp; done)) (by first | omega | (simp; omega) | (simp; done)) (fun v484 w485 hst => ?_))
    replace hst : St w0 w485 (rowT 48 sampE v482 ([(⟨(wr (((((out[(i - 1)]'(by first | omega | (simp; omega) | (simp; done))).T % 18446744073709551616) + ((wr ((((st % 18446744073709551616) + ((zag (rnum bx b p)) % 18446744073709551616)) % 18446744073709551616))) % 18446744073709551616)) % 18446744073709551616))), (wr (((((out[(i - 1)]'(by first | omega | (simp; omega) | (simp; done))).V % 18446744073709551616) + ((zag (rnum (rbad bx b p) b (rto bx b p))) % 18446744073709551616)) % 18446744073709551616)))⟩ : Sample)]) :: .blk g_c 66 #[(.string (str b)), (.int .i64 (rto (rbad bx b p) b (rto bx b p))), (.bool (rbad (rbad bx b p) b (rto bx b p)))] :: rowT 48 sampE v484 (out ++ ([(⟨(wr (((((out[(i - 1)]'(by first | omega | (simp; omega) | (simp; done))).T % 18446744073709551616) + ((wr ((((st % 18446744073709551616) + ((zag (rnum bx b p)) % 18446744073709551616)) % 18446744073709551616))) % 18446744073709551616)) % 18446744073709551616))), (wr (((((out[(i - 1)]'(by first | omega | (simp; omega) | (simp; done))).V % 18446744073709551616) + ((zag (rnum (rbad bx b p) b (rto bx b p))) % 18446744073709551616)) % 18446744073709551616)))⟩ : Sample)])) :: L) := hst
    refine s_cons (op_assign v484 rfl ?_)
    refine s_nil ?_
    refine block_n (then_n ?_)
    refine cE_region rfl ?_
    refine s_cons (op_move (.int .i64 (i : Int)) uw478_6 ?_)
    refine s_cons (op_add (k := .i64) (a := (i : Int)) (b := 1) ((i : Int) + 1) rfl rfl (xi64 (by omega) (by omega)) ?_)
    refine s_cons (op_assign (.int .i64 ((i : Int) + 1)) rfl ?_)
    refine s_nil ?_
    refine then_n ?_
    replace hst : St w0 w485 (.blk g_c 66 #[(.string (str b)), (.int .i64 (rto (rbad bx b p) b (rto bx b p))), (.bool (rbad (rbad bx b p) b (rto bx b p)))] :: rowT 48 sampE v482 ([(⟨(wr (((((out[(i - 1)]'(by first | omega | (simp; omega) | (simp; done))).T % 18446744073709551616) + ((wr ((((st % 18446744073709551616) + ((zag (rnum bx b p)) % 18446744073709551616)) % 18446744073709551616))) % 18446744073709551616)) % 18446744073709551616))), (wr (((((out[(i - 1)]'(by first | omega | (simp; omega) | (simp; done))).V % 18446744073709551616) + ((zag (rnum (rbad bx b p) b (rto bx b p))) % 18446744073709551616)) % 18446744073709551616)))⟩ : Sample)]) :: rowT 48 sampE v484 (out ++ ([(⟨(wr (((((out[(i - 1)]'(by first | omega | (simp; omega) | (simp; done))).T % 18446744073709551616) + ((wr ((((st % 18446744073709551616) + ((zag (rnum bx b p)) % 18446744073709551616)) % 18446744073709551616))) % 18446744073709551616)) % 18446744073709551616))), (wr (((((out[(i - 1)]'(by first | omega | (simp; omega) | (simp; done))).V % 18446744073709551616) + ((zag (rnum (rbad bx b p) b (rto bx b p))) % 18446744073709551616)) % 18446744073709551616)))⟩ : Sample)])) :: L) := hst.front 1 rfl
    replace hst : St w0 w485 (rowT 48 sampE v484 (out ++ ([(⟨(wr (((((out[(i - 1)]'(by first | omega | (simp; omega) | (simp; done))).T % 18446744073709551616) + ((wr ((((st % 18446744073709551616) + ((zag (rnum bx b p)) % 18446744073709551616)) % 18446744073709551616))) % 18446744073709551616)) % 18446744073709551616))), (wr (((((out[(i - 1)]'(by first | omega | (simp; omega) | (simp; done))).V % 18446744073709551616) + ((zag (rnum (rbad bx b p) b (rto bx b p))) % 18446744073709551616)) % 18446744073709551616)))⟩ : Sample)])) :: .blk g_c 66 #[(.string (str b)), (.int .i64 (rto (rbad bx b p) b (rto bx b p))), (.bool (rbad (rbad bx b p) b (rto bx b p)))] :: rowT 48 sampE v482 ([(⟨(wr (((((out[(i - 1)]'(by first | omega | (simp; omega) | (simp; done))).T % 18446744073709551616) + ((wr ((((st % 18446744073709551616) + ((zag (rnum bx b p)) % 18446744073709551616)) % 18446744073709551616))) % 18446744073709551616)) % 18446744073709551616))), (wr (((((out[(i - 1)]'(by first | omega | (simp; omega) | (simp; done))).V % 18446744073709551616) + ((zag (rnum (rbad bx b p) b (rto bx b p))) % 18446744073709551616)) % 18446744073709551616)))⟩ : Sample)]) :: L) := hst.front 2 rfl
    exact ⟨_, ⟨v484, (out ++ ([(⟨(wr (((((out[(i - 1)]'(by first | omega | (simp; omega) | (simp; done))).T % 18446744073709551616) + ((wr ((((st % 18446744073709551616) + ((zag (rnum bx b p)) % 18446744073709551616)) % 18446744073709551616))) % 18446744073709551616)) % 18446744073709551616))), (wr (((((out[(i - 1)]'(by first | omega | (simp; omega) | (simp; done))).V % 18446744073709551616) + ((zag (rnum (rbad bx b p) b (rto bx b p))) % 18446744073709551616)) % 18446744073709551616)))⟩ : Sample)])), (i + 1), (rto (rbad bx b p) b (rto bx b p)), (rbad (rbad bx b p) b (rto bx b p)), (wr ((((st % 18446744073709551616) + ((zag (rnum bx b p)) % 18446744073709551616)) % 18446744073709551616))), rfl, uw478_0, uw478_2, uw478_3, rfl, uw478_5, (congrArg (Value.int .i64) (show ((i : Int) + 1) = _ from by omega)), (hst.sub (.cons_cons _ (.cons_cons _ (.cons _ (List.Sublist.refl _))))), (by first | exact RS_start ha hb | exact RS_first hCS (by omega) (by omega) | exact RS_next hCS (by omega) (by omega) (by omega) wr_mod wr_mod wr_mod), (by omega), (by first | exact (rnum_r _ _ _).1 | omega)⟩, (by simp only [id]; omega)⟩
  have c486 : ¬ ((i : Int) < (wr ((rnum bad b at_)))) := of_decide_eq_false b327
  refine s_no 20 rfl (congrArg Value.bool b327) ?_
  refine s_no 20 rfl (congrArg Value.bool b327) ?_
  refine s_no 20 rfl (congrArg Value.bool b327) ?_
  refine s_no 20 rfl (congrArg Value.bool b327) ?_
  refine s_no 20 rfl (congrArg Value.bool b327) ?_
  refine s_cons (op_pick_f (.bool false) (congrArg Value.bool b327) rfl ?_)
  refine s_nil ?_
  refine then_n ?_
  refine cE_cond false rfl (fun h => by cases h) (fun _ => ?_)
  refine cE_exit ?_
  refine then_x (then_x (block_hit (then_n ?_)))
  refine cE_seq ?_
  refine cE_region rfl ?_
  refine s_cons (op_move vo q323_4 ?_)
  refine s_cons (op_assign vo rfl ?_)
  refine s_nil ?_
  refine then_n ?_
  refine cE_ret ?_
  refine post_r _ (res1 (v := vo) rfl) ?_
  have hd := RB_end hCS (by first | exact Or.inl (by assumption) | exact Or.inr (by omega))
  exact ⟨vo, out, p, bx, rfl, hst.sub (.cons_cons _ (.cons_cons _ (List.Sublist.refl _))), hd⟩

set_option maxHeartbeats 4000000 in
theorem c_rGetBlock (w0 : World) (b : List UInt8) (hl : b.length ≤ 1000000000) :
    Calls Try.prog 12 #[(.string (str b))] w0 fun e w' => ∃ (r : Value), ∃ (out : List Sample), ∃ (c : Int), e = .returned (.tuple #[r, (.int .i64 c)]) ∧ St w0 w' [rowT 48 sampE r out] ∧ DecS b out c := by
  refine calls_E (n := 32) (ts := [2, 3]) Try.func12 rfl rfl rfl (by simp) ?_
  have hst := St.start w0
  refine cE_seq ?_
  refine cE_region rfl ?_
  refine s_cons (op_assign (.slice none 0 0) rfl ?_)
  refine s_cons (op_assign (.int .i64 0) rfl ?_)
  refine s_nil ?_
  refine then_n ?_
  refine cE_seq ?_
  refine cE_region rfl ?_
  refine s_cons (op_move (.string (str b)) rfl ?_)
  refine s_cons (op_build (r := (.agg #[(.string (str b)), (.int .i64 0), (.bool false)])) (evp_cons (v := (.string (str b))) rfl evp_nil) (by simp [Instr.build, Instr.fill, Value.cells, Try.runUnderlying66, Try.zeroValue66]) ?_)
  refine s_cons (op_box (v := (.agg #[(.string (str b)), (.int .i64 0), (.bool false)])) (cs := #[(.string (str b)), (.int .i64 0), (.bool false)]) hst rfl rfl (fun g487 w488 hst _ => ?_))
  replace hst : St w0 w488 [.blk g487 66 #[(.string (str b)), (.int .i64 0), (.bool false)]] := hst
  refine s_cons (op_assign (.pointer (some ⟨g487, 0, none⟩)) rfl ?_)
  refine s_nil ?_
  refine then_n ?_
  refine cE_seq ?_
  refine cE_region rfl ?_
  refine s_cons (op_move (.pointer (some ⟨g487, 0, none⟩)) rfl ?_)
  refine s_cons (op_call Try.call31 (evs_cons (v := (.pointer (some ⟨g487, 0, none⟩))) rfl evs_nil) (c_cBlock (g_c := g487) (b := b) (at_ := 0) (bad := false) (hl := hl) (ha := rfl) (hb := rfl) (hst := hst)) ?_)
  rintro _ w494 ⟨r489, r490, r491, r492, rfl, hcall, x493⟩
  refine ⟨_, rfl, ?_⟩
  have hst : St w0 w494 [rowT 48 sampE r489 r490, .blk g487 66 #[(.string (str b)), (.int .i64 r491), (.bool r492)]] := hcall
  refine s_cons (op_assign r489 rfl ?_)
  refine s_nil ?_
  refine then_n ?_
  refine cE_seq ?_
  refine cE_seq ?_
  refine cE_region rfl ?_
  refine s_cons (op_move r489 rfl ?_)
  refine s_cons (op_call Try.call10 (evs_cons (v := r489) rfl evs_nil) (c_rPutBlock (w0 := w494) (v_l := r489) (l := r490) (h_l := (hst.sl 0 rfl)) (hl := (RB_ok (by assumption)))) ?_)
  rintro _ w495 ⟨rfl, hcall⟩
  refine ⟨_, rfl, ?_⟩
  have hst : St w0 w495 [rowT 48 sampE r489 r490, .blk g487 66 #[(.string (str b)), (.int .i64 r491), (.bool r492)]] := hst.call hcall
  refine s_cons (op_move (.tuple #[(.string (str ((encS r490).1))), (.int .i64 ((encS r490).2))]) rfl ?_)
  refine s_cons (op_extract (.string (str ((encS r490).1))) rfl rfl ?_)
  refine s_cons (op_extract (.int .i64 ((encS r490).2)) rfl rfl ?_)
  refine s_cons (op_assign (.string (str ((encS r490).1))) rfl ?_)
  refine s_cons (op_assign (.int .i64 ((encS r490).2)) rfl ?_)
  refine s_nil ?_
  refine then_n ?_
  refine cE_seq ?_
  refine cE_region rfl ?_
  refine s_cons (op_move (.pointer (some ⟨g487, 0, none⟩)) rfl ?_)
  refine s_cons (op_nilCheck rfl ?_)
  refine s_cons (op_fieldAddr (s := 0) Try.underlying66 rfl rfl Try.sizeOf4 rfl ?_)
  refine s_cons (op_load1 (u := (.bool r492)) Try.isAgg4 rfl ((hst.cell 1 rfl).drop 2) ?_)
  refine s_cons (op_move (.bool r492) rfl ?_)
  rcases Bool.eq_false_or_eq_true r492 with b496 | b496
  · refine s_no 22 rfl (congrArg Value.bool b496) ?_
    refine s_no 22 rfl (congrArg Value.bool b496) ?_
    refine s_cons (op_pick_t (.bool true) (congrArg Value.bool b496) rfl ?_)
    refine s_cons (op_move (.bool true) rfl ?_)
    refine s_no 26 rfl rfl ?_
    refine s_no 26 rfl rfl ?_
    refine s_no 26 rfl rfl ?_
    refine s_cons (op_pick_t (.bool true) rfl rfl ?_)
    refine s_nil ?_
    refine then_n ?_
    refine cE_cond true rfl (fun _ => ?_) (fun h => by cases h)
    refine cE_seq ?_
    refine cE_region rfl ?_
    refine s_cons (op_assign (.slice none 0 0) rfl ?_)
    refine s_cons (op_assign (.int .i64 2) rfl ?_)
    refine s_nil ?_
    refine then_n ?_
    refine cE_ret ?_
    refine then_r ?_
    refine post_r _ (res2 (v := (.slice none 0 0)) rfl (x := (.int .i64 2)) rfl) ?_
    have hx : DecS b [] 2 := by first | exact RB_no (by assumption) (Or.inl (by assumption)) | exact RB_no (by assumption) (Or.inr (Or.inl (by assumption))) | exact RB_no (by assumption) (Or.inr (Or.inr (by assumption)))
    replace hst : St w0 w495 [rowT 48 sampE (.slice none 0 0) ([]), rowT 48 sampE r489 r490, .blk g487 66 #[(.string (str b)), (.int .i64 r491), (.bool r492)]] := hst.nilRow 48 sampE
    exact ⟨(.slice none 0 0), [], 2, rfl, hst.sub (.cons_cons _ (.cons _ (.cons _ .slnil))), hx⟩
  refine s_yes 22 rfl (congrArg Value.bool b496) (op_move (.int .i64 ((encS r490).2)) rfl ?_)
  refine s_yes 22 rfl (congrArg Value.bool b496) (op_neq (k := .i64) (a := (encS r490).2) (b := 0) rfl rfl ?_)
  refine s_cons (op_pick_f (.bool (!decide (((encS r490).2) = 0))) (congrArg Value.bool b496) rfl ?_)
  refine s_cons (op_move (.bool (!decide (((encS r490).2) = 0))) rfl ?_)
  rcases Bool.eq_false_or_eq_true (decide (((encS r490).2) = 0)) with b497 | b497
  · have c498 : ((encS r490).2) = 0 := of_decide_eq_true b497
    refine s_yes 26 rfl (congrArg Value.bool (congrArg (! ·) b497)) (op_move (.string (str ((encS r490).1))) rfl ?_)
    refine s_yes 26 rfl (congrArg Value.bool (congrArg (! ·) b497)) (op_move (.string (str b)) rfl ?_)
    refine s_yes 26 rfl (congrArg Value.bool (congrArg (! ·) b497)) (op_neqStr (a := (encS r490).1) (b := b) rfl rfl ?_)
    refine s_cons (op_pick_f (.bool (!decide (((encS r490).1) = b))) (congrArg Value.bool (congrArg (! ·) b497)) rfl ?_)
    refine s_nil ?_
    refine then_n ?_
    rcases Bool.eq_false_or_eq_true (decide (((encS r490).1) = b)) with b499 | b499
    · have c500 : ((encS r490).1) = b := of_decide_eq_true b499
      refine cE_cond false (congrArg Value.bool (congrArg (! ·) b499)) (fun h => by cases h) (fun _ => ?_)
      refine cE_skip ?_
      refine then_n ?_
      refine cE_seq ?_
      refine cE_region rfl ?_
      refine s_cons (op_move r489 rfl ?_)
      refine s_cons (op_assign r489 rfl ?_)
      refine s_cons (op_assign (.int .i64 0) rfl ?_)
      refine s_nil ?_
      refine then_n ?_
      refine cE_ret ?_
      refine post_r _ (res2 (v := r489) rfl (x := (.int .i64 0)) rfl) ?_
      have hx : DecS b r490 0 := RB_yes (by assumption) (by assumption) (by assumption)
      exact ⟨r489, r490, 0, rfl, hst.sub (.cons_cons _ (.cons _ .slnil)), hx⟩
    have c501 : ¬ (((encS r490).1) = b) := of_decide_eq_false b499
    refine cE_cond true (congrArg Value.bool (congrArg (! ·) b499)) (fun _ => ?_) (fun h => by cases h)
    refine cE_seq ?_
    refine cE_region rfl ?_
    refine s_cons (op_assign (.slice none 0 0) rfl ?_)
    refine s_cons (op_assign (.int .i64 2) rfl ?_)
    refine s_nil ?_
    refine then_n ?_
    refine cE_ret ?_
    refine then_r ?_
    refine post_r _ (res2 (v := (.slice none 0 0)) rfl (x := (.int .i64 2)) rfl) ?_
    have hx : DecS b [] 2 := by first | exact RB_no (by assumption) (Or.inl (by assumption)) | exact RB_no (by assumption) (Or.inr (Or.inl (by assumption))) | exact RB_no (by assumption) (Or.inr (Or.inr (by assumption)))
    replace hst : St w0 w495 [rowT 48 sampE (.slice none 0 0) ([]), rowT 48 sampE r489 r490, .blk g487 66 #[(.string (str b)), (.int .i64 r491), (.bool r492)]] := hst.nilRow 48 sampE
    exact ⟨(.slice none 0 0), [], 2, rfl, hst.sub (.cons_cons _ (.cons _ (.cons _ .slnil))), hx⟩
  have c502 : ¬ (((encS r490).2) = 0) := of_decide_eq_false b497
  refine s_no 26 rfl (congrArg Value.bool (congrArg (! ·) b497)) ?_
  refine s_no 26 rfl (congrArg Value.bool (congrArg (! ·) b497)) ?_
  refine s_no 26 rfl (congrArg Value.bool (congrArg (! ·) b497)) ?_
  refine s_cons (op_pick_t (.bool true) (congrArg Value.bool (congrArg (! ·) b497)) rfl ?_)
  refine s_nil ?_
  refine then_n ?_
  refine cE_cond true rfl (fun _ => ?_) (fun h => by cases h)
  refine cE_seq ?_
  refine cE_region rfl ?_
  refine s_cons (op_assign (.slice none 0 0) rfl ?_)
  refine s_cons (op_assign (.int .i64 2) rfl ?_)
  refine s_nil ?_
  refine then_n ?_
  refine cE_ret ?_
  refine then_r ?_
  refine post_r _ (res2 (v := (.slice none 0 0)) rfl (x := (.int .i64 2)) rfl) ?_
  have hx : DecS b [] 2 := by first | exact RB_no (by assumption) (Or.inl (by assumption)) | exact RB_no (by assumption) (Or.inr (Or.inl (by assumption))) | exact RB_no (by assumption) (Or.inr (Or.inr (by assumption)))
  replace hst : St w0 w495 [rowT 48 sampE (.slice none 0 0) ([]), rowT 48 sampE r489 r490, .blk g487 66 #[(.string (str b)), (.int .i64 r491), (.bool r492)]] := hst.nilRow 48 sampE
  exact ⟨(.slice none 0 0), [], 2, rfl, hst.sub (.cons_cons _ (.cons _ (.cons _ .slnil))), hx⟩

end Go.Proofs.Ytpamjfbdgaamoaa
