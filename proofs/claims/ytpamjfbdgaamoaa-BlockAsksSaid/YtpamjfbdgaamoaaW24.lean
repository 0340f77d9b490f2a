/- block.PutAggs$1, block.PutAggs -/
import Derived.Test.YtpamjfbdgaamoaaW1
import Derived.Test.YtpamjfbdgaamoaaBA
import Derived.Test.YtpamjfbdgaamoaaW5
namespace Go.Proofs.Ytpamjfbdgaamoaa
open Go.RowKit

theorem c_kPut1 {w0 w : World} {L : List Item} (n : Int) (g_pb : Nat) (v_buf : Value) (buf : List UInt8) (n0 : 0 ≤ n) (n1 : n ≤ 18446744073709551615) (hb : buf.length ≤ 1000000) (hst : St w0 w (.blk g_pb 24 #[v_buf] :: rowT 5 u8E v_buf buf :: L)) :
    Calls Try.prog 33 #[(.int .u64 n), (.pointer (some ⟨g_pb, 0, none⟩))] w fun e w' => ∃ (r : Value), e = .returned (.tuple #[]) ∧ St w0 w' (.blk g_pb 24 #[r] :: rowT 5 u8E r (buf ++ (put n)) :: L) := by
  refine calls_E (n := 7) (ts := []) Try.func33 rfl rfl rfl (by simp) ?_
  have q1 := put_length n
  have hM6 : stabML [3, 4] [(kEq v_buf), (kEq (.int .u64 n)), (kSlU [3, 4] u8E (put n)), (fun (D : Nat → Bool) (v3 : Value) (w : World) => (D 3 = true → D 4 = false → St w0 w (rowT 5 u8E v3 (buf ++ (put n)) :: .blk g_pb 24 #[v_buf] :: L)) ∧ (D 4 = true → St w0 w (rowT 5 u8E v3 (buf ++ (put n)) :: .blk g_pb 24 #[v3] :: L))), kAny] := ⟨mEq, mEq, (mSlUs (by decide)), (fun D D' v w w' hD hb h2 => ⟨(fun x0 x1 => (h2.1 ((hD 3 (by decide)).symm.trans x0) ((hD 4 (by decide)).symm.trans x1)).ext hb), (fun x0 => (h2.2 ((hD 4 (by decide)).symm.trans x0)).ext hb)⟩), mAny, trivial⟩
  refine cE_regionK (fun (D : Nat → Bool) (w : World) => St w0 w L ∧ (D 3 = false → St w0 w (.blk g_pb 24 #[v_buf] :: rowT 5 u8E v_buf buf :: L))) [[(1, none)], [(0, none)], [(4, some 1)], [(3, some 0), (5, some 2)], [(1, none), (6, some 3)]] (RofK [(kEq v_buf), (kEq (.int .u64 n)), (kSlU [3, 4] u8E (put n)), (fun (D : Nat → Bool) (v3 : Value) (w : World) => (D 3 = true → D 4 = false → St w0 w (rowT 5 u8E v3 (buf ++ (put n)) :: .blk g_pb 24 #[v_buf] :: L)) ∧ (D 4 = true → St w0 w (rowT 5 u8E v3 (buf ++ (put n)) :: .blk g_pb 24 #[v3] :: L))), kAny]) (by kernel_rfl) rfl (by kernel_rfl) ⟨hst.drewW.sub (.cons _ (.cons _ (List.Sublist.refl _))), (fun _ => hst.drewW)⟩ ⟨?_, ?_, ?_, ?_, ?_, trivial⟩ ?_
  · rintro D8 ρ9 w10 hD11 hE12 hC13 hJ14 hA15 ⟨f1, _⟩
    have hst := hJ14.2 (not_yet hD11 (fun hm => (hC13 3 0 hm (by kernel_rfl))))
    replace hst : St w0 w10 (.blk g_pb 24 #[v_buf] :: rowT 5 u8E v_buf buf :: L) := hst
    exact go_plain (op_load1 (u := v_buf) Try.isAgg24 (f1.trans rfl) (hst.cell 0 rfl) (kN0 (i := 0) hM6 (by decide) (by exact hJ14) (by exact rfl)))
  · rintro D16 ρ17 w18 hD19 hE20 hC21 hJ22 hA23 ⟨f0, _⟩
    have hst := hJ22.2 (not_yet hD19 (fun hm => (hC21 2 1 (hC21 3 2 hm (by kernel_rfl)) (by kernel_rfl))))
    replace hst : St w0 w18 (.blk g_pb 24 #[v_buf] :: rowT 5 u8E v_buf buf :: L) := hst
    exact go_plain (op_move (.int .u64 n) (f0.trans rfl) (kN0 (i := 1) hM6 (by decide) (by exact hJ22) (by exact rfl)))
  · rintro D24 ρ25 w26 hD27 hE28 hC29 hJ30 hA31 ⟨f4, _⟩
    have hst := hJ30.2 (not_yet hD27 (fun hm => (hC29 3 2 hm (by kernel_rfl))))
    replace hst : St w0 w26 (.blk g_pb 24 #[v_buf] :: rowT 5 u8E v_buf buf :: L) := hst
    refine go_plain (op_call Try.call22 (evs_cons (v := (.int .u64 n)) f4 evs_nil) (c_Put (w0 := w26) (n := n) (h0 := (by omega)) (h1 := (by omega))) ?_)
    rintro _ w33 ⟨r32, rfl, hcall⟩
    refine ⟨_, rfl, ?_⟩
    exact kN (i := 2) hM6 (by decide) hcall.below (by exact ⟨(hJ30.1).ext hcall.below, (fun x0 => (hJ30.2 x0).ext hcall.below)⟩) (by exact fun _ => hcall.sl 0 rfl)
  · rintro D34 ρ35 w36 hD37 hE38 hC39 hJ40 hA41 ⟨f3, f5, _⟩
    have hst := hJ40.2 hD37
    replace hst : St w0 w36 (.blk g_pb 24 #[v_buf] :: rowT 5 u8E v_buf buf :: L) := hst
    obtain ⟨v43, e44⟩ : ∃ x, ρ35 5 = x := ⟨_, rfl⟩
    have hs42 := f5 (by intro m hm; simp only [List.mem_cons, List.not_mem_nil, or_false] at hm; rcases hm with rfl | rfl; exact hD37; exact (not_yet hD37 (fun hm => (hC39 4 3 hm (by kernel_rfl)))))
    replace hs42 : Sl w36 u8E v43 (put n) := e44 ▸ hs42
    refine go_plain (op_append (E := u8E) (xs := buf) (ys := (put n)) (z := (.int .u8 0)) (bytes := 1) hst 1 rfl Try.underlying24 (by kernel_rfl) rfl f3 e44 hs42 (by first | omega | (simp; omega) | (simp; done)) (by first | omega | (simp; omega) | (simp; done)) (fun v45 w46 hst => ?_))
    replace hst : St w0 w46 (.blk g_pb 24 #[v_buf] :: rowT 5 u8E v45 (buf ++ (put n)) :: L) := hst
    replace hst : St w0 w46 (rowT 5 u8E v45 (buf ++ (put n)) :: .blk g_pb 24 #[v_buf] :: L) := hst.front 1 rfl
    have hI47 : stabIXs 3 [] D34 0 [(kEq v_buf), (kEq (.int .u64 n)), (kSlU [3, 4] u8E (put n)), (fun (D : Nat → Bool) (v3 : Value) (w : World) => (D 3 = true → D 4 = false → St w0 w (rowT 5 u8E v3 (buf ++ (put n)) :: .blk g_pb 24 #[v_buf] :: L)) ∧ (D 4 = true → St w0 w (rowT 5 u8E v3 (buf ++ (put n)) :: .blk g_pb 24 #[v3] :: L))), kAny] := ⟨Or.inr (Or.inr (Or.inr iEq)), Or.inr (Or.inr (Or.inr iEq)), Or.inr (Or.inr (Or.inr (iSlU (by decide)))), Or.inl rfl, Or.inr (Or.inr (Or.inl (not_yet hD37 (fun hm => (hC39 4 3 hm (by kernel_rfl)))))), trivial⟩
    refine ⟨by exact ⟨hst.sub (.cons _ (.cons _ (List.Sublist.refl _))), (fun y0 => absurd y0 (fun h => Bool.noConfusion h))⟩, by exact ⟨(fun y0 y1 => hst.sub (.cons_cons _ (.cons_cons _ (List.Sublist.refl _)))), (fun y0 => absurd (show D34 4 = true from y0) (by rw [(not_yet hD37 (fun hm => (hC39 4 3 hm (by kernel_rfl))))]; decide))⟩, kX [] hI47 ?_⟩
    intro j d hj; cases hj
  · rintro D48 ρ49 w50 hD51 hE52 hC53 hJ54 hA55 ⟨f1, f6, _⟩
    obtain ⟨v56, e57⟩ : ∃ x, ρ49 6 = x := ⟨_, rfl⟩
    have hh58 := hA55 3 6 (hE52 3 (by kernel_rfl)) rfl
    have hst : St w0 w50 (rowT 5 u8E v56 (buf ++ (put n)) :: .blk g_pb 24 #[v_buf] :: L) := by have h := hh58.1 (hE52 3 (by kernel_rfl)) hD51; rw [e57] at h; exact h
    refine go_plain (op_store1 hst 1 rfl Try.sizeOf24 (f1.trans rfl) e57 (sl_one (show Sl _ u8E v56 (buf ++ (put n)) from (hst.sl 0 rfl))) (show 0 < 1 from by decide) (fun w59 hst => ?_))
    replace hst : St w0 w59 (rowT 5 u8E v56 (buf ++ (put n)) :: .blk g_pb 24 #[v56] :: L) := hst
    have hI60 : stabIXs 4 [3] D48 0 [(kEq v_buf), (kEq (.int .u64 n)), (kSlU [3, 4] u8E (put n)), (fun (D : Nat → Bool) (v3 : Value) (w : World) => (D 3 = true → D 4 = false → St w0 w (rowT 5 u8E v3 (buf ++ (put n)) :: .blk g_pb 24 #[v_buf] :: L)) ∧ (D 4 = true → St w0 w (rowT 5 u8E v3 (buf ++ (put n)) :: .blk g_pb 24 #[v3] :: L))), kAny] := ⟨Or.inr (Or.inr (Or.inr iEq)), Or.inr (Or.inr (Or.inr iEq)), Or.inr (Or.inr (Or.inr (iSlU (by decide)))), Or.inr (Or.inl (by decide)), Or.inl rfl, trivial⟩
    refine ⟨by exact ⟨hst.sub (.cons _ (.cons _ (List.Sublist.refl _))), (fun y0 => absurd (show D48 3 = false from y0) (by rw [(hE52 3 (by kernel_rfl))]; decide))⟩, by exact trivial, kX [3] hI60 ?_⟩
    intro j d hj hjd hDj h
    simp only [List.mem_cons, List.not_mem_nil, or_false] at hj
    subst hj
    obtain rfl : 6 = d := Option.some.inj hjd
    exact (by rw [e57]; exact ⟨(fun y0 y1 => absurd y1 (fun h => Bool.noConfusion h)), (fun y0 => hst.sub (.cons_cons _ (.cons_cons _ (List.Sublist.refl _))))⟩)
  intro ρ61 w62 Dw62 hallw62 hJw62 hRw62 hkw62
  obtain ⟨v63, uw62_6⟩ : ∃ x, ρ61 6 = x := ⟨_, rfl⟩
  have hst : St w0 w62 (rowT 5 u8E v63 (buf ++ (put n)) :: .blk g_pb 24 #[v63] :: L) := by have h := hRw62 3 6 rfl; rw [uw62_6] at h; exact (h.2 (hallw62 4 (show 4 < 5 from by decide)))
  refine post_n (.tuple #[]) rfl ?_
  replace hst : St w0 w62 (.blk g_pb 24 #[v63] :: rowT 5 u8E v63 (buf ++ (put n)) :: L) := hst.front 1 rfl
  exact ⟨v63, rfl, hst.sub (.cons_cons _ (.cons_cons _ (List.Sublist.refl _)))⟩

set_option maxHeartbeats 4000000 in
theorem c_kPutAggs (w0 : World) (v_l : Value) (l : List Agg) (h_l : Sl w0 aggE v_l l) (k : Int) (hl : ∀ a ∈ l, a.ok) (k0 : -9223372036854775808 ≤ k) (k1 : k ≤ 9223372036854775807) :
    Calls Try.prog 13 #[v_l, (.int .i64 k)] w0 fun e w' => ∃ (r : Value), e = .returned (.tuple #[r, (.int .i64 ((encA k l).2))]) ∧ St w0 w' [rowT 5 u8E r ((encA k l).1)] := by
  refine calls_E (n := 93) (ts := [4, 5]) Try.func13 rfl rfl rfl (by simp) ?_
  have hst := St.start w0
  refine cE_seq ?_
  refine cE_region rfl ?_
  refine s_cons (op_assign (.slice none 0 0) rfl ?_)
  refine s_cons (op_assign (.int .i64 0) rfl ?_)
  refine s_nil ?_
  refine then_n ?_
  refine cE_scope ?_
  refine cE_seq ?_
  refine cE_seq ?_
  refine cE_region rfl ?_
  refine s_cons (op_move v_l rfl ?_)
  refine s_cons (op_move (.int .i64 k) rfl ?_)
  refine s_cons (op_call Try.call32 (evs_cons (v := v_l) rfl (evs_cons (v := (.int .i64 k)) rfl evs_nil)) (c_Aligned (w0 := w0) (v_l := v_l) (l := l) (h_l := (h_l.below hst.below)) (k := k) (hl := hl) (k0 := (by omega)) (k1 := (by omega))) ?_)
  rintro _ w64 ⟨rfl, hcall⟩
  refine ⟨_, rfl, ?_⟩
  have hst : St w0 w64 [] := hst.call hcall
  refine s_cons (op_not (b := alignedA l k) rfl ?_)
  refine s_cons (op_move (.bool (!(alignedA l k))) rfl ?_)
  rcases Bool.eq_false_or_eq_true (alignedA l k) with b65 | b65
  · have hal := b65
    refine s_yes 16 rfl (congrArg Value.bool (congrArg (! ·) b65)) (op_move v_l rfl ?_)
    refine s_yes 16 rfl (congrArg Value.bool (congrArg (! ·) b65)) (op_len (E := aggE) (xs := l) Try.underlying23 rfl h_l ?_)
    refine s_yes 16 rfl (congrArg Value.bool (congrArg (! ·) b65)) (op_gtr (k := .i64) (a := (l.length : Int)) (b := 64) rfl rfl ?_)
    refine s_cons (op_pick_f (.bool (decide (64 < (l.length : Int)))) (congrArg Value.bool (congrArg (! ·) b65)) rfl ?_)
    refine s_nil ?_
    refine then_n ?_
    rcases Bool.eq_false_or_eq_true (decide (64 < (l.length : Int))) with b66 | b66
    · have c67 : 64 < (l.length : Int) := of_decide_eq_true b66
      refine cE_cond true (congrArg Value.bool b66) (fun _ => ?_) (fun h => by cases h)
      refine cE_seq ?_
      refine cE_region rfl ?_
      refine s_cons (op_assign (.slice none 0 0) rfl ?_)
      refine s_cons (op_assign (.int .i64 1) rfl ?_)
      refine s_nil ?_
      refine then_n ?_
      refine cE_ret ?_
      refine then_r (scope_r ?_)
      refine post_r _ (res2 (v := (.slice none 0 0)) rfl (x := (.int .i64 1)) rfl) ?_
      replace hst : St w0 w64 [rowT 5 u8E (.slice none 0 0) ([])] := hst.nilRow 5 u8E
      have e68 : [] = (encA k l).1 := by first | rw [encA_no (Or.inl (by assumption))] | rw [encA_no (Or.inr (by omega))] | (rw [encA_yes hok]; done) | (rw [encA_yes hok]; show _ = putA k l; rw [hp, stepA2_end (by omega), List.append_nil])
      replace hst : St w0 w64 [rowT 5 u8E (.slice none 0 0) ((encA k l).1)] := by rw [congrArg (fun l => rowT 5 u8E (.slice none 0 0) l) e68] at hst; exact hst
      exact ⟨(.slice none 0 0), (retv2 rfl (congrArg (Value.int .i64) (show 1 = (encA k l).2 from by first | rw [encA_no (Or.inl (by assumption))] | rw [encA_no (Or.inr (by omega))] | (rw [encA_yes hok]; done) | (rw [encA_yes hok]; show _ = putA k l; rw [hp, stepA2_end (by omega), List.append_nil])))), hst.sub (.cons_cons _ .slnil)⟩
    have c69 : ¬ (64 < (l.length : Int)) := of_decide_eq_false b66
    refine cE_cond false (congrArg Value.bool b66) (fun h => by cases h) (fun _ => ?_)
    refine cE_skip ?_
    refine then_n ?_
    refine cE_seq ?_
    have hok := okA_iff.2 ⟨hal, (by omega : l.length ≤ 64)⟩
    have hp0 := put_length (l.length : Int)
    have hwp := width_pos (okA_coarse hok)
    have hwr := width_r k
    refine cE_region rfl ?_
    refine s_cons (op_move v_l rfl ?_)
    refine s_cons (op_len (E := aggE) (xs := l) Try.underlying23 rfl h_l ?_)
    refine s_cons (op_conv (k := .i64) (a := (l.length : Int)) (l.length : Int) Try.underlying54 (by rw [Try.underlying3]; rfl) rfl (xu64 (by omega) (by omega)) ?_)
    refine s_cons (op_call Try.call22 (evs_cons (v := (.int .u64 (l.length : Int))) rfl evs_nil) (c_Put (w0 := w64) (n := (l.length : Int)) (h0 := (by omega)) (h1 := (by omega))) ?_)
    rintro _ w71 ⟨r70, rfl, hcall⟩
    refine ⟨_, rfl, ?_⟩
    have hst : St w0 w71 [rowT 5 u8E r70 (put (l.length : Int))] := hst.call hcall
    refine s_cons (op_alloc (cs := #[(.slice none 0 0)]) hst Try.zeroValue24 rfl (fun g72 w73 hst _ => ?_))
    replace hst : St w0 w73 [.blk g72 24 #[(.slice none 0 0)], rowT 5 u8E r70 (put (l.length : Int))] := hst
    refine s_cons0 (op_store1 hst 0 rfl Try.sizeOf24 rfl rfl (sl_one (show Sl _ u8E r70 (put (l.length : Int)) from (hst.sl 1 rfl))) (show 0 < 1 from by decide) (fun w74 hst => ?_))
    replace hst : St w0 w74 [.blk g72 24 #[r70], rowT 5 u8E r70 (put (l.length : Int))] := hst
    refine s_nil ?_
    refine then_n ?_
    refine cE_seq ?_
    refine cE_region rfl ?_
    refine s_cons (op_makeFunc (evs_cons (v := (.pointer (some ⟨g72, 0, none⟩))) rfl evs_nil) ?_)
    refine s_cons (op_assign (.func (.func 33) #[] #[(.pointer (some ⟨g72, 0, none⟩))]) rfl ?_)
    refine s_nil ?_
    refine then_n ?_
    refine cE_seq ?_
    refine cE_region rfl ?_
    refine s_cons (op_assign (.int .i64 (-1)) rfl ?_)
    refine s_nil ?_
    refine then_n ?_
    refine cE_seq ?_
    refine cE_label ?_
    refine then_n ?_
    refine cE_seq ?_
    refine cE_seq ?_
    refine cE_region rfl ?_
    refine s_cons (op_move v_l rfl ?_)
    refine s_cons (op_len (E := aggE) (xs := l) Try.underlying23 rfl h_l ?_)
    refine s_cons (op_move (.int .i64 0) rfl ?_)
    refine s_nil ?_
    refine then_n ?_
    refine cE_block ?_
    refine cE_loop (fun (m : Nat) (ρ : Env) (w : World) => ∃ (v : Value) (done : List UInt8) (i : Nat), m = l.length - i ∧ ρ 0 = v_l ∧ ρ 1 = (.int .i64 k) ∧ ρ 4 = (.slice none 0 0) ∧ ρ 5 = (.int .i64 0) ∧ ρ 6 = (.pointer (some ⟨g72, 0, none⟩)) ∧ ρ 7 = (.func (.func 33) #[] #[(.pointer (some ⟨g72, 0, none⟩))]) ∧ ρ 26 = v_l ∧ ρ 27 = (.int .i64 (l.length : Int)) ∧ ρ 28 = (.int .i64 (i : Int)) ∧ ρ 8 = (.int .i64 (lastW (widthA k) l i)) ∧ St w0 w [.blk g72 24 #[v], rowT 5 u8E v done] ∧ (i ≤ l.length) ∧ (done.length ≤ 10 + 70 * i) ∧ (putA k l = done ++ stepA2 (widthA k) (lastW (widthA k) l i) (l.drop i))) id _ ⟨r70, (put (l.length : Int)), 0, rfl, rfl, rfl, rfl, rfl, rfl, rfl, rfl, rfl, (congrArg (Value.int .i64) (show 0 = _ from by omega)), (congrArg (Value.int .i64) (show (-1) = _ from by first | rfl | exact (lastW_succ (by omega)).symm)), hst, (by omega), (by first | omega | (simp; omega)), (by first | rfl | (rw [hp, stepA2_one (by omega) (by assumption)]; simp; done) | (rw [hp, stepA2_many (by omega) (by assumption)]; simp; done))⟩ ?_
    rintro m76 ρ77 w78 ⟨v, done, i, hm76, q75_0, q75_1, q75_4, q75_5, q75_6, q75_7, q75_26, q75_27, q75_28, q75_8, hst, hi, hdl, hp⟩
    have hlen := h_l.len
    refine cE_seq ?_
    refine cE_region rfl ?_
    refine s_cons (op_lss (k := .i64) (a := (i : Int)) (b := (l.length : Int)) q75_28 q75_27 ?_)
    refine s_nil ?_
    refine then_n ?_
    refine cE_seq ?_
    rcases Bool.eq_false_or_eq_true (decide ((i : Int) < (l.length : Int))) with b79 | b79
    · have c80 : (i : Int) < (l.length : Int) := of_decide_eq_true b79
      refine cE_cond true (congrArg Value.bool b79) (fun _ => ?_) (fun h => by cases h)
      refine cE_skip ?_
      refine then_n ?_
      refine cE_seq ?_
      refine cE_block ?_
      refine cE_seq ?_
      have hwn := aligned_at hal (show i < l.length by omega)
      have hoa := hl _ (List.getElem_mem (show i < l.length by omega))
      have hlg := lastW_ge hal (i := i) (by omega)
      simp only [Agg.ok, i64R] at hoa
      have hz1 := zig_r (m := (l[i]'(by omega)).Min) (by simp only [i64R]; omega)
      have hz2 := zig_r (m := (l[i]'(by omega)).Sum) (by simp only [i64R]; omega)
      have q0 := put_length ((l[i]'(by omega)).From / widthA k - lastW (widthA k) l i - 1)
      have q1 := put_length ((l[i]'(by omega)).Count - 1)
      have q2 := put_length (zig (l[i]'(by omega)).Min)
      have q3 := put_length ((l[i]'(by omega)).Max - (l[i]'(by omega)).Min)
      have q4 := put_length (zig (l[i]'(by omega)).Sum)
      have q5 := put_length ((l[i]'(by omega)).First - (l[i]'(by omega)).Min)
      have q6 := put_length ((l[i]'(by omega)).Last - (l[i]'(by omega)).Min)
      refine cE_region rfl ?_
      refine s_cons (op_indexAddrN (E := aggE) (xs := l) i Try.underlying23 Try.sizeOf71 q75_26 h_l q75_28 (by omega) (by first | omega | (simp; omega) | (simp; done)) (fun a81 o82 p83 => ?_))
      refine s_cons (op_loadN (cs := [(.int .i64 ((l[i]'(by first | omega | (simp; omega) | (simp; done))).From)), (.int .i64 ((l[i]'(by first | omega | (simp; omega) | (simp; done))).Count)), (.int .i64 ((l[i]'(by first | omega | (simp; omega) | (simp; done))).Sum)), (.int .i64 ((l[i]'(by first | omega | (simp; omega) | (simp; done))).Min)), (.int .i64 ((l[i]'(by first | omega | (simp; omega) | (simp; done))).Max)), (.int .i64 ((l[i]'(by first | omega | (simp; omega) | (simp; done))).First)), (.int .i64 ((l[i]'(by first | omega | (simp; omega) | (simp; done))).Last))]) Try.isAgg71 Try.sizeOf71 rfl (Pt.of (p83.below hst.below) rfl) rfl ?_)
      refine s_cons (op_alloc (cs := #[(.int .i64 0), (.int .i64 0), (.int .i64 0), (.int .i64 0), (.int .i64 0), (.int .i64 0), (.int .i64 0)]) hst Try.zeroValue71 rfl (fun g84 w85 hst _ => ?_))
      replace hst : St w0 w85 [.blk g84 71 #[(.int .i64 0), (.int .i64 0), (.int .i64 0), (.int .i64 0), (.int .i64 0), (.int .i64 0), (.int .i64 0)], .blk g72 24 #[v], rowT 5 u8E v done] := hst
      refine s_cons0 (op_storeAll hst 0 rfl Try.sizeOf71 rfl rfl rfl rfl (by simp [Value.oneCell']) (fun w86 hst => ?_))
      replace hst : St w0 w86 [.blk g84 71 #[(.int .i64 ((l[i]'(by first | omega | (simp; omega) | (simp; done))).From)), (.int .i64 ((l[i]'(by first | omega | (simp; omega) | (simp; done))).Count)), (.int .i64 ((l[i]'(by first | omega | (simp; omega) | (simp; done))).Sum)), (.int .i64 ((l[i]'(by first | omega | (simp; omega) | (simp; done))).Min)), (.int .i64 ((l[i]'(by first | omega | (simp; omega) | (simp; done))).Max)), (.int .i64 ((l[i]'(by first | omega | (simp; omega) | (simp; done))).First)), (.int .i64 ((l[i]'(by first | omega | (simp; omega) | (simp; done))).Last))], .blk g72 24 #[v], rowT 5 u8E v done] := hst
      refine s_nil ?_
      refine then_n ?_
      refine cE_seq ?_
      refine cE_regionL hst [[(10, none)], [(32, some 0)], [(1, none)], [(34, some 2)], [(33, some 1), (35, some 3)], [(36, some 4)]] [(rEq (.pointer (some ⟨g84, (0 + 0), none⟩))), (rEq (.int .i64 ((l[i]'(by first | omega | (simp; omega) | (simp; done))).From))), (rEq (.int .i64 k)), (rEq (.int .i64 (widthA k))), (rEq (.int .i64 (((l[i]'(by first | omega | (simp; omega) | (simp; done))).From) / (widthA k)))), (rEq (.int .i64 (((l[i]'(by first | omega | (simp; omega) | (simp; done))).From) / (widthA k))))] (by kernel_rfl) rfl (by kernel_rfl) ⟨sEq, sEq, sEq, sEq, sEq, sEq, trivial⟩ ⟨?_, ?_, ?_, ?_, ?_, ?_, trivial⟩ ?_
      · rintro ρ88 w89 hj90 ⟨f10, _⟩
        have hst := hj90.2
        exact go_plain (op_fieldAddr (s := 0) Try.underlying71 rfl rfl Try.sizeOf2 (f10.trans rfl) (kS hj90 rfl))
      · rintro ρ91 w92 hj93 ⟨f32, _⟩
        have hst := hj93.2
        exact go_plain (op_load1 (u := (.int .i64 ((l[i]'(by first | omega | (simp; omega) | (simp; done))).From))) Try.isAgg2 f32 (hst.cell 0 rfl) (kS hj93 rfl))
      · rintro ρ94 w95 hj96 ⟨f1, _⟩
        have hst := hj96.2
        exact go_plain (op_move (.int .i64 k) (f1.trans q75_1) (kS hj96 rfl))
      · rintro ρ97 w98 hj99 ⟨f34, _⟩
        have hst := hj99.2
        refine go_plain (op_call Try.call34 (evs_cons (v := (.int .i64 k)) f34 evs_nil) (c_Width (w0 := w98) (k := k) (k0 := (by omega)) (k1 := (by omega))) ?_)
        rintro _ w100 ⟨rfl, hcall⟩
        refine ⟨_, rfl, ?_⟩
        exact kD hj99 hcall rfl
      · rintro ρ101 w102 hj103 ⟨f33, f35, _⟩
        have hst := hj103.2
        exact go_plain (op_quo (k := .i64) (a := (l[i]'(by first | omega | (simp; omega) | (simp; done))).From) (b := (widthA k)) (((l[i]'(by first | omega | (simp; omega) | (simp; done))).From) / (widthA k)) f33 f35 (by omega) (quo_x (by omega) (by omega) (xi64 (by omega) (by omega))) (kS hj103 rfl))
      · rintro ρ104 w105 hj106 ⟨f36, _⟩
        have hst := hj106.2
        exact go_plain (op_assign (.int .i64 (((l[i]'(by first | omega | (simp; omega) | (simp; done))).From) / (widthA k))) f36 (kS hj106 rfl))
      intro ρ107 w108 hbw108 hst hRw108 hkw108
      have uw108_0 : ρ107 0 = v_l := (hkw108 0 rfl).trans q75_0
      have uw108_1 : ρ107 1 = (.int .i64 k) := (hkw108 1 rfl).trans q75_1
      have uw108_4 : ρ107 4 = (.slice none 0 0) := (hkw108 4 rfl).trans q75_4
      have uw108_5 : ρ107 5 = (.int .i64 0) := (hkw108 5 rfl).trans q75_5
      have uw108_6 : ρ107 6 = (.pointer (some ⟨g72, 0, none⟩)) := (hkw108 6 rfl).trans q75_6
      have uw108_7 : ρ107 7 = (.func (.func 33) #[] #[(.pointer (some ⟨g72, 0, none⟩))]) := (hkw108 7 rfl).trans q75_7
      have uw108_26 : ρ107 26 = v_l := (hkw108 26 rfl).trans q75_26
      have uw108_27 : ρ107 27 = (.int .i64 (l.length : Int)) := (hkw108 27 rfl).trans q75_27
      have uw108_28 : ρ107 28 = (.int .i64 (i : Int)) := (hkw108 28 rfl).trans q75_28
      have uw108_8 : ρ107 8 = (.int .i64 (lastW (widthA k) l i)) := (hkw108 8 rfl).trans q75_8
      have uw108_29 : ρ107 29 = (.bool (decide ((i : Int) < (l.length : Int)))) := (hkw108 29 rfl).trans rfl
      have uw108_30 : ρ107 30 = (.pointer (some ⟨a81, o82, none⟩)) := (hkw108 30 rfl).trans rfl
      have uw108_31 : ρ107 31 = (.agg #[(.int .i64 ((l[i]'(by first | omega | (simp; omega) | (simp; done))).From)), (.int .i64 ((l[i]'(by first | omega | (simp; omega) | (simp; done))).Count)), (.int .i64 ((l[i]'(by first | omega | (simp; omega) | (simp; done))).Sum)), (.int .i64 ((l[i]'(by first | omega | (simp; omega) | (simp; done))).Min)), (.int .i64 ((l[i]'(by first | omega | (simp; omega) | (simp; done))).Max)), (.int .i64 ((l[i]'(by first | omega | (simp; omega) | (simp; done))).First)), (.int .i64 ((l[i]'(by first | omega | (simp; omega) | (simp; done))).Last))]) := (hkw108 31 rfl).trans rfl
      have uw108_10 : ρ107 10 = (.pointer (some ⟨g84, 0, none⟩)) := (hkw108 10 rfl).trans rfl
      have uw108_11 : ρ107 11 = (.int .i64 (((l[i]'(by first | omega | (simp; omega) | (simp; done))).From) / (widthA k))) := hRw108 5 11 rfl
      refine then_n ?_
      refine cE_seq ?_
      refine cE_region rfl ?_
      refine s_cons (op_move (.func (.func 33) #[] #[(.pointer (some ⟨g72, 0, none⟩))]) uw108_7 ?_)
      refine s_cons (op_move (.int .i64 (((l[i]'(by first | omega | (simp; omega) | (simp; done))).From) / (widthA k))) uw108_11 ?_)
      refine s_cons (op_move (.int .i64 (lastW (widthA k) l i)) uw108_8 ?_)
      refine s_cons (op_sub (k := .i64) (a := (((l[i]'(by first | omega | (simp; omega) | (simp; done))).From) / (widthA k))) (b := (lastW (widthA k) l i)) ((((l[i]'(by first | omega | (simp; omega) | (simp; done))).From) / (widthA k)) - (lastW (widthA k) l i)) rfl rfl (xi64 (by omega) (by omega)) ?_)
      refine s_cons (op_sub (k := .i64) (a := ((((l[i]'(by first | omega | (simp; omega) | (simp; done))).From) / (widthA k)) - (lastW (widthA k) l i))) (b := 1) (((((l[i]'(by first | omega | (simp; omega) | (simp; done))).From) / (widthA k)) - (lastW (widthA k) l i)) - 1) rfl rfl (xi64 (by omega) (by omega)) ?_)
      refine s_cons (op_conv (k := .i64) (a := (((((l[i]'(by first | omega | (simp; omega) | (simp; done))).From) / (widthA k)) - (lastW (widthA k) l i)) - 1)) (((((l[i]'(by first | omega | (simp; omega) | (simp; done))).From) / (widthA k)) - (lastW (widthA k) l i)) - 1) Try.underlying54 (by rw [Try.underlying2]; rfl) rfl (xu64 (by omega) (by omega)) ?_)
      replace hst : St w0 w108 [rowT 5 u8E v done, .blk g84 71 #[(.int .i64 ((l[i]'(by first | omega | (simp; omega) | (simp; done))).From)), (.int .i64 ((l[i]'(by first | omega | (simp; omega) | (simp; done))).Count)), (.int .i64 ((l[i]'(by first | omega | (simp; omega) | (simp; done))).Sum)), (.int .i64 ((l[i]'(by first | omega | (simp; omega) | (simp; done))).Min)), (.int .i64 ((l[i]'(by first | omega | (simp; omega) | (simp; done))).Max)), (.int .i64 ((l[i]'(by first | omega | (simp; omega) | (simp; done))).First)), (.int .i64 ((l[i]'(by first | omega | (simp; omega) | (simp; done))).Last))], .blk g72 24 #[v]] := hst.front 2 rfl
      replace hst : St w0 w108 [.blk g72 24 #[v], rowT 5 u8E v done, .blk g84 71 #[(.int .i64 ((l[i]'(by first | omega | (simp; omega) | (simp; done))).From)), (.int .i64 ((l[i]'(by first | omega | (simp; omega) | (simp; done))).Count)), (.int .i64 ((l[i]'(by first | omega | (simp; omega) | (simp; done))).Sum)), (.int .i64 ((l[i]'(by first | omega | (simp; omega) | (simp; done))).Min)), (.int .i64 ((l[i]'(by first | omega | (simp; omega) | (simp; done))).Max)), (.int .i64 ((l[i]'(by first | omega | (simp; omega) | (simp; done))).First)), (.int .i64 ((l[i]'(by first | omega | (simp; omega) | (simp; done))).Last))]] := hst.front 2 rfl
      refine s_cons (op_callv (cs := [(.pointer (some ⟨g72, 0, none⟩))]) Try.call33 rfl (evs_cons (v := (.int .u64 (((((l[i]'(by first | omega | (simp; omega) | (simp; done))).From) / (widthA k)) - (lastW (widthA k) l i)) - 1))) rfl evs_nil) (c_kPut1 (n := (((((l[i]'(by first | omega | (simp; omega) | (simp; done))).From) / (widthA k)) - (lastW (widthA k) l i)) - 1)) (g_pb := g72) (v_buf := v) (buf := done) (n0 := (by omega)) (n1 := (by omega)) (hb := (by first | omega | (simp; omega))) (hst := hst)) ?_)
      rintro _ w110 ⟨r109, rfl, hcall⟩
      refine ⟨_, rfl, ?_⟩
      have hst : St w0 w110 [.blk g72 24 #[r109], rowT 5 u8E r109 (done ++ (put (((((l[i]'(by first | omega | (simp; omega) | (simp; done))).From) / (widthA k)) - (lastW (widthA k) l i)) - 1))), .blk g84 71 #[(.int .i64 ((l[i]'(by first | omega | (simp; omega) | (simp; done))).From)), (.int .i64 ((l[i]'(by first | omega | (simp; omega) | (simp; done))).Count)), (.int .i64 ((l[i]'(by first | omega | (simp; omega) | (simp; done))).Sum)), (.int .i64 ((l[i]'(by first | omega | (simp; omega) | (simp; done))).Min)), (.int .i64 ((l[i]'(by first | omega | (simp; omega) | (simp; done))).Max)), (.int .i64 ((l[i]'(by first | omega | (simp; omega) | (simp; done))).First)), (.int .i64 ((l[i]'(by first | omega | (simp; omega) | (simp; done))).Last))]] := hcall
      refine s_nil ?_
      refine then_n ?_
      refine cE_seq ?_
      refine cE_region rfl ?_
      refine s_cons (op_move (.func (.func 33) #[] #[(.pointer (some ⟨g72, 0, none⟩))]) uw108_7 ?_)
      refine s_cons (op_fieldAddr (s := 0) Try.underlying71 rfl rfl Try.sizeOf2 uw108_10 ?_)
      refine s_cons (op_load1 (u := (.int .i64 ((l[i]'(by first | omega | (simp; omega) | (simp; done))).Count))) Try.isAgg2 rfl ((hst.cell 2 rfl).drop 1) ?_)
      refine s_cons (op_sub (k := .i64) (a := (l[i]'(by first | omega | (simp; omega) | (simp; done))).Count) (b := 1) (((l[i]'(by first | omega | (simp; omega) | (simp; done))).Count) - 1) rfl rfl (xi64 (by omega) (by omega)) ?_)
      refine s_cons (op_conv (k := .i64) (a := (((l[i]'(by first | omega | (simp; omega) | (simp; done))).Count) - 1)) (((l[i]'(by first | omega | (simp; omega) | (simp; done))).Count) - 1) Try.underlying54 (by rw [Try.underlying2]; rfl) rfl (xu64 (by omega) (by omega)) ?_)
      refine s_cons (op_callv (cs := [(.pointer (some ⟨g72, 0, none⟩))]) Try.call33 rfl (evs_cons (v := (.int .u64 (((l[i]'(by first | omega | (simp; omega) | (simp; done))).Count) - 1))) rfl evs_nil) (c_kPut1 (n := (((l[i]'(by first | omega | (simp; omega) | (simp; done))).Count) - 1)) (g_pb := g72) (v_buf := r109) (buf := (done ++ (put (((((l[i]'(by first | omega | (simp; omega) | (simp; done))).From) / (widthA k)) - (lastW (widthA k) l i)) - 1)))) (n0 := (by omega)) (n1 := (by omega)) (hb := (by first | omega | (simp; omega))) (hst := hst)) ?_)
      rintro _ w112 ⟨r111, rfl, hcall⟩
      refine ⟨_, rfl, ?_⟩
      have hst : St w0 w112 [.blk g72 24 #[r111], rowT 5 u8E r111 ((done ++ (put (((((l[i]'(by first | omega | (simp; omega) | (simp; done))).From) / (widthA k)) - (lastW (widthA k) l i)) - 1))) ++ (put (((l[i]'(by first | omega | (simp; omega) | (simp; done))).Count) - 1))), .blk g84 71 #[(.int .i64 ((l[i]'(by first | omega | (simp; omega) | (simp; done))).From)), (.int .i64 ((l[i]'(by first | omega | (simp; omega) | (simp; done))).Count)), (.int .i64 ((l[i]'(by first | omega | (simp; omega) | (simp; done))).Sum)), (.int .i64 ((l[i]'(by first | omega | (simp; omega) | (simp; done))).Min)), (.int .i64 ((l[i]'(by first | omega | (simp; omega) | (simp; done))).Max)), (.int .i64 ((l[i]'(by first | omega | (simp; omega) | (simp; done))).First)), (.int .i64 ((l[i]'(by first | omega | (simp; omega) | (simp; done))).Last))]] := hcall
      refine s_nil ?_
      refine then_n ?_
      refine cE_seq ?_
      refine cE_region rfl ?_
      refine s_cons (op_move (.func (.func 33) #[] #[(.pointer (some ⟨g72, 0, none⟩))]) uw108_7 ?_)
      refine s_cons (op_fieldAddr (s := 0) Try.underlying71 rfl rfl Try.sizeOf2 uw108_10 ?_)
      refine s_cons (op_load1 (u := (.int .i64 ((l[i]'(by first | omega | (simp; omega) | (simp; done))).Min))) Try.isAgg2 rfl ((hst.cell 2 rfl).drop 3) ?_)
      refine s_cons (op_call Try.call23 (evs_cons (v := (.int .i64 ((l[i]'(by first | omega | (simp; omega) | (simp; done))).Min))) rfl evs_nil) (c_Zig (w0 := w112) (m := (l[i]'(by first | omega | (simp; omega) | (simp; done))).Min) (h0 := (by omega)) (h1 := (by omega))) ?_)
      rintro _ w113 ⟨rfl, hcall⟩
      refine ⟨_, rfl, ?_⟩
      have hst : St w0 w113 [.blk g72 24 #[r111], rowT 5 u8E r111 ((done ++ (put (((((l[i]'(by first | omega | (simp; omega) | (simp; done))).From) / (widthA k)) - (lastW (widthA k) l i)) - 1))) ++ (put (((l[i]'(by first | omega | (simp; omega) | (simp; done))).Count) - 1))), .blk g84 71 #[(.int .i64 ((l[i]'(by first | omega | (simp; omega) | (simp; done))).From)), (.int .i64 ((l[i]'(by first | omega | (simp; omega) | (simp; done))).Count)), (.int .i64 ((l[i]'(by first | omega | (simp; omega) | (simp; done))).Sum)), (.int .i64 ((l[i]'(by first | omega | (simp; omega) | (simp; done))).Min)), (.int .i64 ((l[i]'(by first | omega | (simp; omega) | (simp; done))).Max)), (.int .i64 ((l[i]'(by first | omega | (simp; omega) | (simp; done))).First)), (.int .i64 ((l[i]'(by first | omega | (simp; omega) | (simp; done))).Last))]] := hst.call hcall
      refine s_cons (op_callv (cs := [(.pointer (some ⟨g72, 0, none⟩))]) Try.call33 rfl (evs_cons (v := (.int .u64 (zig ((l[i]'(by first | omega | (simp; omega) | (simp; done))).Min)))) rfl evs_nil) (c_kPut1 (n := (zig ((l[i]'(by first | omega | (simp; omega) | (simp; done))).Min))) (g_pb := g72) (v_buf := r111) (buf := ((done ++ (put (((((l[i]'(by first | omega | (simp; omega) | (simp; done))).From) / (widthA k)) - (lastW (widthA k) l i)) - 1))) ++ (put (((l[i]'(by first | omega | (simp; omega) | (simp; done))).Count) - 1)))) (n0 := (by omega)) (n1 := (by omega)) (hb := (by first | omega | (simp; omega))) (hst := hst)) ?_)
      rintro _ w115 ⟨r114, rfl, hcall⟩
      refine ⟨_, rfl, ?_⟩
      have hst : St w0 w115 [.blk g72 24 #[r114], rowT 5 u8E r114 (((done ++ (put (((((l[i]'(by first | omega | (simp; omega) | (simp; done))).From) / (widthA k)) - (lastW (widthA k) l i)) - 1))) ++ (put (((l[i]'(by first | omega | (simp; omega) | (simp; done))).Count) - 1))) ++ (put (zig ((l[i]'(by first | omega | (simp; omega) | (simp; done))).Min)))), .blk g84 71 #[(.int .i64 ((l[i]'(by first | omega | (simp; omega) | (simp; done))).From)), (.int .i64 ((l[i]'(by first | omega | (simp; omega) | (simp; done))).Count)), (.int .i64 ((l[i]'(by first | omega | (simp; omega) | (simp; done))).Sum)), (.int .i64 ((l[i]'(by first | omega | (simp; omega) | (simp; done))).Min)), (.int .i64 ((l[i]'(by first | omega | (simp; omega) | (simp; done))).Max)), (.int .i64 ((l[i]'(by first | omega | (simp; omega) | (simp; done))).First)), (.int .i64 ((l[i]'(by first | omega | (simp; omega) | (simp; done))).Last))]] := hcall
      refine s_nil ?_
      refine then_n ?_
      refine cE_seq ?_
      refine cE_region rfl ?_
      refine s_cons (op_move (.int .i64 (((l[i]'(by first | omega | (simp; omega) | (simp; done))).From) / (widthA k))) uw108_11 ?_)
      refine s_cons (op_assign (.int .i64 (((l[i]'(by first | omega | (simp; omega) | (simp; done))).From) / (widthA k))) rfl ?_)
      refine s_nil ?_
      refine then_n ?_
      refine cE_seq ?_
      refine cE_seq ?_
      refine cE_region rfl ?_
      refine s_cons (op_fieldAddr (s := 0) Try.underlying71 rfl rfl Try.sizeOf2 uw108_10 ?_)
      refine s_cons (op_load1 (u := (.int .i64 ((l[i]'(by first | omega | (simp; omega) | (simp; done))).Count))) Try.isAgg2 rfl ((hst.cell 2 rfl).drop 1) ?_)
      refine s_cons (op_eql (k := .i64) (a := (l[i]'(by first | omega | (simp; omega) | (simp; done))).Count) (b := 1) rfl rfl ?_)
      refine s_nil ?_
      refine then_n ?_
      rcases Bool.eq_false_or_eq_true (decide (((l[i]'(by first | omega | (simp; omega) | (simp; done))).Count) = 1)) with b116 | b116
      · have c117 : ((l[i]'(by first | omega | (simp; omega) | (simp; done))).Count) = 1 := of_decide_eq_true b116
        refine cE_cond true (congrArg Value.bool b116) (fun _ => ?_) (fun h => by cases h)
        refine cE_exit ?_
        refine then_x (block_hit (then_n ?_))
        refine cE_region rfl ?_
        refine s_cons (op_add (k := .i64) (a := (i : Int)) (b := 1) ((i : Int) + 1) uw108_28 rfl (xi64 (by omega) (by omega)) ?_)
        refine s_cons (op_move (.int .i64 ((i : Int) + 1)) rfl ?_)
        refine s_nil ?_
        refine then_n ?_
        exact ⟨_, ⟨r114, (((done ++ (put (((((l[i]'(by first | omega | (simp; omega) | (simp; done))).From) / (widthA k)) - (lastW (widthA k) l i)) - 1))) ++ (put (((l[i]'(by first | omega | (simp; omega) | (simp; done))).Count) - 1))) ++ (put (zig ((l[i]'(by first | omega | (simp; omega) | (simp; done))).Min)))), (i + 1), rfl, uw108_0, uw108_1, uw108_4, uw108_5, uw108_6, uw108_7, uw108_26, uw108_27, (congrArg (Value.int .i64) (show ((i : Int) + 1) = _ from by omega)), (congrArg (Value.int .i64) (show (((l[i]'(by first | omega | (simp; omega) | (simp; done))).From) / (widthA k)) = _ from by first | rfl | exact (lastW_succ (by omega)).symm)), (hst.sub (.cons_cons _ (.cons_cons _ (.cons _ .slnil)))), (by omega), (by first | omega | (simp; omega)), (by first | rfl | (rw [hp, stepA2_one (by omega) (by assumption)]; simp; done) | (rw [hp, stepA2_many (by omega) (by assumption)]; simp; done))⟩, (by simp only [id]; omega)⟩
      have c118 : ¬ (((l[i]'(by first | omega | (simp; omega) | (simp; done))).Count) = 1) := of_decide_eq_false b116
      refine cE_cond false (congrArg Value.bool b116) (fun h => by cases h) (fun _ => ?_)
      refine cE_skip ?_
      refine then_n ?_
      refine cE_seq ?_
      refine cE_region rfl ?_
      refine s_cons (op_move (.func (.func 33) #[] #[(.pointer (some ⟨g72, 0, none⟩))]) uw108_7 ?_)
      refine s_cons (op_fieldAddr (s := 0) Try.underlying71 rfl rfl Try.sizeOf2 uw108_10 ?_)
      refine s_cons (op_load1 (u := (.int .i64 ((l[i]'(by first | omega | (simp; omega) | (simp; done))).Max))) Try.isAgg2 rfl ((hst.cell 2 rfl).drop 4) ?_)
      refine s_cons (op_conv (k := .i64) (a := (l[i]'(by first | omega | (simp; omega) | (simp; done))).Max) ((l[i]'(by first | omega | (simp; omega) | (simp; done))).Max % 18446744073709551616) Try.underlying54 (by rw [Try.underlying2]; rfl) rfl (IntKind.wrap_u64 _) ?_)
      refine s_cons (op_fieldAddr (s := 0) Try.underlying71 rfl rfl Try.sizeOf2 uw108_10 ?_)
      refine s_cons (op_load1 (u := (.int .i64 ((l[i]'(by first | omega | (simp; omega) | (simp; done))).Min))) Try.isAgg2 rfl ((hst.cell 2 rfl).drop 3) ?_)
      refine s_cons (op_conv (k := .i64) (a := (l[i]'(by first | omega | (simp; omega) | (simp; done))).Min) ((l[i]'(by first | omega | (simp; omega) | (simp; done))).Min % 18446744073709551616) Try.underlying54 (by rw [Try.underlying2]; rfl) rfl (IntKind.wrap_u64 _) ?_)
      refine s_cons (op_sub (k := .u64) (a := ((l[i]'(by first | omega | (simp; omega) | (simp; done))).Max % 18446744073709551616)) (b := ((l[i]'(by first | omega | (simp; omega) | (simp; done))).Min % 18446744073709551616)) ((l[i]'(by omega)).Max - (l[i]'(by omega)).Min) rfl rfl (u64_sub (by simp only [i64R]; omega) (by simp only [i64R]; omega) (by omega)) ?_)
      refine s_cons (op_callv (cs := [(.pointer (some ⟨g72, 0, none⟩))]) Try.call33 rfl (evs_cons (v := (.int .u64 ((l[i]'(by omega)).Max - (l[i]'(by omega)).Min))) rfl evs_nil) (c_kPut1 (n := ((l[i]'(by omega)).Max - (l[i]'(by omega)).Min)) (g_pb := g72) (v_buf := r114) (buf := (((done ++ (put (((((l[i]'(by first | omega | (simp; omega) | (simp; done))).From) / (widthA k)) - (lastW (widthA k) l i)) - 1))) ++ (put (((l[i]'(by first | omega | (simp; omega) | (simp; done))).Count) - 1))) ++ (put (zig ((l[i]'(by first | omega | (simp; omega) | (simp; done))).Min))))) (n0 := (by omega)) (n1 := (by omega)) (hb := (by first | omega | (simp; omega))) (hst := hst)) ?_)
      rintro _ w120 ⟨r119, rfl, hcall⟩
      refine ⟨_, rfl, ?_⟩
      have hst : St w0 w120 [.blk g72 24 #[r119], rowT 5 u8E r119 ((((done ++ (put (((((l[i]'(by first | omega | (simp; omega) | (simp; done))).From) / (widthA k)) - (lastW (widthA k) l i)) - 1))) ++ (put (((l[i]'(by first | omega | (simp; omega) | (simp; done))).Count) - 1))) ++ (put (zig ((l[i]'(by first | omega | (simp; omega) | (simp; done))).Min)))) ++ (put ((l[i]'(by omega)).Max - (l[i]'(by omega)).Min))), .blk g84 71 #[(.int .i64 ((l[i]'(by first | omega | (simp; omega) | (simp; done))).From)), (.int .i64 ((l[i]'(by first | omega | (simp; omega) | (simp; done))).Count)), (.int .i64 ((l[i]'(by first | omega | (simp; omega) | (simp; done))).Sum)), (.int .i64 ((l[i]'(by first | omega | (simp; omega) | (simp; done))).Min)), (.int .i64 ((l[i]'(by first | omega | (simp; omega) | (simp; done))).Max)), (.int .i64 ((l[i]'(by first | omega | (simp; omega) | (simp; done))).First)), (.int .i64 ((l[i]'(by first | omega | (simp; omega) | (simp; done))).Last))]] := hcall
      refine s_nil ?_
      refine then_n ?_
      refine cE_seq ?_
      refine cE_region rfl ?_
      refine s_cons (op_move (.func (.func 33) #[] #[(.pointer (some ⟨g72, 0, none⟩))]) uw108_7 ?_)
      refine s_cons (op_fieldAddr (s := 0) Try.underlying71 rfl rfl Try.sizeOf2 uw108_10 ?_)
      refine s_cons (op_load1 (u := (.int .i64 ((l[i]'(by first | omega | (simp; omega) | (simp; done))).Sum))) Try.isAgg2 rfl ((hst.cell 2 rfl).drop 2) ?_)
      refine s_cons (op_call Try.call23 (evs_cons (v := (.int .i64 ((l[i]'(by first | omega | (simp; omega) | (simp; done))).Sum))) rfl evs_nil) (c_Zig (w0 := w120) (m := (l[i]'(by first | omega | (simp; omega) | (simp; done))).Sum) (h0 := (by omega)) (h1 := (by omega))) ?_)
      rintro _ w121 ⟨rfl, hcall⟩
      refine ⟨_, rfl, ?_⟩
      have hst : St w0 w121 [.blk g72 24 #[r119], rowT 5 u8E r119 ((((done ++ (put (((((l[i]'(by first | omega | (simp; omega) | (simp; done))).From) / (widthA k)) - (lastW (widthA k) l i)) - 1))) ++ (put (((l[i]'(by first | omega | (simp; omega) | (simp; done))).Count) - 1))) ++ (put (zig ((l[i]'(by first | omega | (simp; omega) | (simp; done))).Min)))) ++ (put ((l[i]'(by omega)).Max - (l[i]'(by omega)).Min))), .blk g84 71 #[(.int .i64 ((l[i]'(by first | omega | (simp; omega) | (simp; done))).From)), (.int .i64 ((l[i]'(by first | omega | (simp; omega) | (simp; done))).Count)), (.int .i64 ((l[i]'(by first | omega | (simp; omega) | (simp; done))).Sum)), (.int .i64 ((l[i]'(by first | omega | (simp; omega) | (simp; done))).Min)), (.int .i64 ((l[i]'(by first | omega | (simp; omega) | (simp; done))).Max)), (.int .i64 ((l[i]'(by first | omega | (simp; omega) | (simp; done))).First)), (.int .i64 ((l[i]'(by first | omega | (simp; omega) | (simp; done))).Last))]] := hst.call hcall
      refine s_cons (op_callv (cs := [(.pointer (some ⟨g72, 0, none⟩))]) Try.call33 rfl (evs_cons (v := (.int .u64 (zig ((l[i]'(by first | omega | (simp; omega) | (simp; done))).Sum)))) rfl evs_nil) (c_kPut1 (n := (zig ((l[i]'(by first | omega | (simp; omega) | (simp; done))).Sum))) (g_pb := g72) (v_buf := r119) (buf := ((((done ++ (put (((((l[i]'(by first | omega | (simp; omega) | (simp; done))).From) / (widthA k)) - (lastW (widthA k) l i)) - 1))) ++ (put (((l[i]'(by first | omega | (simp; omega) | (simp; done))).Count) - 1))) ++ (put (zig ((l[i]'(by first | omega | (simp; omega) | (simp; done))).Min)))) ++ (put ((l[i]'(by omega)).Max - (l[i]'(by omega)).Min)))) (n0 := (by omega)) (n1 := (by omega)) (hb := (by first | omega | (simp; omega))) (hst := hst)) ?_)
      rintro _ w123 ⟨r122, rfl, hcall⟩
      refine ⟨_, rfl, ?_⟩
      have hst : St w0 w123 [.blk g72 24 #[r122], rowT 5 u8E r122 (((((done ++ (put (((((l[i]'(by first | omega | (simp; omega) | (simp; done))).From) / (widthA k)) - (lastW (widthA k) l i)) - 1))) ++ (put (((l[i]'(by first | omega | (simp; omega) | (simp; done))).Count) - 1))) ++ (put (zig ((l[i]'(by first | omega | (simp; omega) | (simp; done))).Min)))) ++ (put ((l[i]'(by omega)).Max - (l[i]'(by omega)).Min))) ++ (put (zig ((l[i]'(by first | omega | (simp; omega) | (simp; done))).Sum)))), .blk g84 71 #[(.int .i64 ((l[i]'(by first | omega | (simp; omega) | (simp; done))).From)), (.int .i64 ((l[i]'(by first | omega | (simp; omega) | (simp; done))).Count)), (.int .i64 ((l[i]'(by first | omega | (simp; omega) | (simp; done))).Sum)), (.int .i64 ((l[i]'(by first | omega | (simp; omega) | (simp; done))).Min)), (.int .i64 ((l[i]'(by first | omega | (simp; omega) | (simp; done))).Max)), (.int .i64 ((l[i]'(by first | omega | (simp; omega) | (simp; done))).First)), (.int .i64 ((l[i]'(by first | omega | (simp; omega) | (simp; done))).Last))]] := hcall
      refine s_nil ?_
      refine then_n ?_
      refine cE_seq ?_
      refine cE_region rfl ?_
      refine s_cons (op_move (.func (.func 33) #[] #[(.pointer (some ⟨g72, 0, none⟩))]) uw108_7 ?_)
      refine s_cons (op_fieldAddr (s := 0) Try.underlying71 rfl rfl Try.sizeOf2 uw108_10 ?_)
      refine s_cons (op_load1 (u := (.int .i64 ((l[i]'(by first | omega | (simp; omega) | (simp; done))).First))) Try.isAgg2 rfl ((hst.cell 2 rfl).drop 5) ?_)
      refine s_cons (op_conv (k := .i64) (a := (l[i]'(by first | omega | (simp; omega) | (simp; done))).First) ((l[i]'(by first | omega | (simp; omega) | (simp; done))).First % 18446744073709551616) Try.underlying54 (by rw [Try.underlying2]; rfl) rfl (IntKind.wrap_u64 _) ?_)
      refine s_cons (op_fieldAddr (s := 0) Try.underlying71 rfl rfl Try.sizeOf2 uw108_10 ?_)
      refine s_cons (op_load1 (u := (.int .i64 ((l[i]'(by first | omega | (simp; omega) | (simp; done))).Min))) Try.isAgg2 rfl ((hst.cell 2 rfl).drop 3) ?_)
      refine s_cons (op_conv (k := .i64) (a := (l[i]'(by first | omega | (simp; omega) | (simp; done))).Min) ((l[i]'(by first | omega | (simp; omega) | (simp; done))).Min % 18446744073709551616) Try.underlying54 (by rw [Try.underlying2]; rfl) rfl (IntKind.wrap_u64 _) ?_)
      refine s_cons (op_sub (k := .u64) (a := ((l[i]'(by first | omega | (simp; omega) | (simp; done))).First % 18446744073709551616)) (b := ((l[i]'(by first | omega | (simp; omega) | (simp; done))).Min % 18446744073709551616)) ((l[i]'(by omega)).First - (l[i]'(by omega)).Min) rfl rfl (u64_sub (by simp only [i64R]; omega) (by simp only [i64R]; omega) (by omega)) ?_)
      refine s_cons (op_callv (cs := [(.pointer (some ⟨g72, 0, none⟩))]) Try.call33 rfl (evs_cons (v := (.int .u64 ((l[i]'(by omega)).First - (l[i]'(by omega)).Min))) rfl evs_nil) (c_kPut1 (n := ((l[i]'(by omega)).First - (l[i]'(by omega)).Min)) (g_pb := g72) (v_buf := r122) (buf := (((((done ++ (put (((((l[i]'(by first | omega | (simp; omega) | (simp; done))).From) / (widthA k)) - (lastW (widthA k) l i)) - 1))) ++ (put (((l[i]'(by first | omega | (simp; omega) | (simp; done))).Count) - 1))) ++ (put (zig ((l[i]'(by first | omega | (simp; omega) | (simp; done))).Min)))) ++ (put ((l[i]'(by omega)).Max - (l[i]'(by omega)).Min))) ++ (put (zig ((l[i]'(by first | omega | (simp; omega) | (simp; done))).Sum))))) (n0 := (by omega)) (n1 := (by omega)) (hb := (by first | omega | (simp; omega))) (hst := hst)) ?_)
      rintro _ w125 ⟨r124, rfl, hcall⟩
      refine ⟨_, rfl, ?_⟩
      have hst : St w0 w125 [.blk g72 24 #[r124], rowT 5 u8E r124 ((((((done ++ (put (((((l[i]'(by first | omega | (simp; omega) | (simp; done))).From) / (widthA k)) - (lastW (widthA k) l i)) - 1))) ++ (put (((l[i]'(by first | omega | (simp; omega) | (simp; done))).Count) - 1))) ++ (put (zig ((l[i]'(by first | omega | (simp; omega) | (simp; done))).Min)))) ++ (put ((l[i]'(by omega)).Max - (l[i]'(by omega)).Min))) ++ (put (zig ((l[i]'(by first | omega | (simp; omega) | (simp; done))).Sum)))) ++ (put ((l[i]'(by omega)).First - (l[i]'(by omega)).Min))), .blk g84 71 #[(.int .i64 ((l[i]'(by first | omega | (simp; omega) | (simp; done))).From)), (.int .i64 ((l[i]'(by first | omega | (simp; omega) | (simp; done))).Count)), (.int .i64 ((l[i]'(by first | omega | (simp; omega) | (simp; done))).Sum)), (.int .i64 ((l[i]'(by first | omega | (simp; omega) | (simp; done))).Min)), (.int .i64 ((l[i]'(by first | omega | (simp; omega) | (simp; done))).Max)), (.int .i64 ((l[i]'(by first | omega | (simp; omega) | (simp; done))).First)), (.int .i64 ((l[i]'(by first | omega | (simp; omega) | (simp; done))).Last))]] := hcall
      refine s_nil ?_
      refine then_n ?_
      refine cE_region rfl ?_
      refine s_cons (op_move (.func (.func 33) #[] #[(.pointer (some ⟨g72, 0, none⟩))]) uw108_7 ?_)
      refine s_cons (op_fieldAddr (s := 0) Try.underlying71 rfl rfl Try.sizeOf2 uw108_10 ?_)
      refine s_cons (op_load1 (u := (.int .i64 ((l[i]'(by first | omega | (simp; omega) | (simp; done))).Last))) Try.isAgg2 rfl ((hst.cell 2 rfl).drop 6) ?_)
      refine s_cons (op_conv (k := .i64) (a := (l[i]'(by first | omega | (simp; omega) | (simp; done))).Last) ((l[i]'(by first | omega | (simp; omega) | (simp; done))).Last % 18446744073709551616) Try.underlying54 (by rw [Try.underlying2]; rfl) rfl (IntKind.wrap_u64 _) ?_)
      refine s_cons (op_fieldAddr (s := 0) Try.underlying71 rfl rfl Try.sizeOf2 uw108_10 ?_)
      refine s_cons (op_load1 (u := (.int .i64 ((l[i]'(by first | omega | (simp; omega) | (simp; done))).Min))) Try.isAgg2 rfl ((hst.cell 2 rfl).drop 3) ?_)
      refine s_cons (op_conv (k := .i64) (a := (l[i]'(by first | omega | (simp; omega) | (simp; done))).Min) ((l[i]'(by first | omega | (simp; omega) | (simp; done))).Min % 18446744073709551616) Try.underlying54 (by rw [Try.underlying2]; rfl) rfl (IntKind.wrap_u64 _) ?_)
      refine s_cons (op_sub (k := .u64) (a := ((l[i]'(by first | omega | (simp; omega) | (simp; done))).Last % 18446744073709551616)) (b := ((l[i]'(by first | omega | (simp; omega) | (simp; done))).Min % 18446744073709551616)) ((l[i]'(by omega)).Last - (l[i]'(by omega)).Min) rfl rfl (u64_sub (by simp only [i64R]; omega) (by simp only [i64R]; omega) (by omega)) ?_)
      refine s_cons (op_callv (cs := [(.pointer (some ⟨g72, 0, none⟩))]) Try.call33 rfl (evs_cons (v := (.int .u64 ((l[i]'(by omega)).Last - (l[i]'(by omega)).Min))) rfl evs_nil) (c_kPut1 (n := ((l[i]'(by omega)).Last - (l[i]'(by omega)).Min)) (g_pb := g72) (v_buf := r124) (buf := ((((((done ++ (put (((((l[i]'(by first | omega | (simp; omega) | (simp; done))).From) / (widthA k)) - (lastW (widthA k) l i)) - 1))) ++ (put (((l[i]'(by first | omega | (simp; omega) | (simp; done))).Count) - 1))) ++ (put (zig ((l[i]'(by first | omega | (simp; omega) | (simp; done))).Min)))) ++ (put ((l[i]'(by omega)).Max - (l[i]'(by omega)).Min))) ++ (put (zig ((l[i]'(by first | omega | (simp; omega) | (simp; done))).Sum)))) ++ (put ((l[i]'(by omega)).First - (l[i]'(by omega)).Min)))) (n0 := (by omega)) (n1 := (by omega)) (hb := (by first | omega | (simp; omega))) (hst := hst)) ?_)
      rintro _ w127 ⟨r126, rfl, hcall⟩
      refine ⟨_, rfl, ?_⟩
      have hst : St w0 w127 [.blk g72 24 #[r126], rowT 5 u8E r126 (((((((done ++ (put (((((l[i]'(by first | omega | (simp; omega) | (simp; done))).From) / (widthA k)) - (lastW (widthA k) l i)) - 1))) ++ (put (((l[i]'(by first | omega | (simp; omega) | (simp; done))).Count) - 1))) ++ (put (zig ((l[i]'(by first | omega | (simp; omega) | (simp; done))).Min)))) ++ (put ((l[i]'(by omega)).Max - (l[i]'(by omega)).Min))) ++ (put (zig ((l[i]'(by first | omega | (simp; omega) | (simp; done))).Sum)))) ++ (put ((l[i]'(by omega)).First - (l[i]'(by omega)).Min))) ++ (put ((l[i]'(by omega)).Last - (l[i]'(by omega)).Min))), .blk g84 71 #[(.int .i64 ((l[i]'(by first | omega | (simp; omega) | (simp; done))).From)), (.int .i64 ((l[i]'(by first | omega | (simp; omega) | (simp; done))).Count)), (.int .i64 ((l[i]'(by first | omega | (simp; omega) | (simp; done))).Sum)), (.int .i64 ((l[i]'(by first | omega | (simp; omega) | (simp; done))).Min)), (.int .i64 ((l[i]'(by first | omega | (simp; omega) | (simp; done))).Max)), (.int .i64 ((l[i]'(by first | omega | (simp; omega) | (simp; done))).First)), (.int .i64 ((l[i]'(by first | omega | (simp; omega) | (simp; done))).Last))]] := hcall
      refine s_nil ?_
      refine block_n (then_n ?_)
      refine cE_region rfl ?_
      refine s_cons (op_add (k := .i64) (a := (i : Int)) (b := 1) ((i : Int) + 1) uw108_28 rfl (xi64 (by omega) (by omega)) ?_)
      refine s_cons (op_move (.int .i64 ((i : Int) + 1)) rfl ?_)
      refine s_nil ?_
      refine then_n ?_
      exact ⟨_, ⟨r126, (((((((done ++ (put (((((l[i]'(by first | omega | (simp; omega) | (simp; done))).From) / (widthA k)) - (lastW (widthA k) l i)) - 1))) ++ (put (((l[i]'(by first | omega | (simp; omega) | (simp; done))).Count) - 1))) ++ (put (zig ((l[i]'(by first | omega | (simp; omega) | (simp; done))).Min)))) ++ (put ((l[i]'(by omega)).Max - (l[i]'(by omega)).Min))) ++ (put (zig ((l[i]'(by first | omega | (simp; omega) | (simp; done))).Sum)))) ++ (put ((l[i]'(by omega)).First - (l[i]'(by omega)).Min))) ++ (put ((l[i]'(by omega)).Last - (l[i]'(by omega)).Min))), (i + 1), rfl, uw108_0, uw108_1, uw108_4, uw108_5, uw108_6, uw108_7, uw108_26, uw108_27, (congrArg (Value.int .i64) (show ((i : Int) + 1) = _ from by omega)), (congrArg (Value.int .i64) (show (((l[i]'(by first | omega | (simp; omega) | (simp; done))).From) / (widthA k)) = _ from by first | rfl | exact (lastW_succ (by omega)).symm)), (hst.sub (.cons_cons _ (.cons_cons _ (.cons _ .slnil)))), (by omega), (by first | omega | (simp; omega)), (by first | rfl | (rw [hp, stepA2_one (by omega) (by assumption)]; simp; done) | (rw [hp, stepA2_many (by omega) (by assumption)]; simp; done))⟩, (by simp only [id]; omega)⟩
    have c128 : ¬ ((i : Int) < (l.length : Int)) := of_decide_eq_false b79
    refine cE_cond false (congrArg Value.bool b79) (fun h => by cases h) (fun _ => ?_)
    refine cE_exit ?_
    refine then_x (then_x (block_hit (then_n ?_)))
    refine cE_seq ?_
    refine cE_region rfl ?_
    refine s_cons (op_load1 (u := v) Try.isAgg24 q75_6 (hst.cell 0 rfl) ?_)
    refine s_cons (op_assign v rfl ?_)
    refine s_cons (op_assign (.int .i64 0) rfl ?_)
    refine s_nil ?_
    refine then_n ?_
    refine cE_ret ?_
    refine scope_r ?_
    refine post_r _ (res2 (v := v) rfl (x := (.int .i64 0)) rfl) ?_
    have e129 : done = (encA k l).1 := by first | rw [encA_no (Or.inl (by assumption))] | rw [encA_no (Or.inr (by omega))] | (rw [encA_yes hok]; done) | (rw [encA_yes hok]; show _ = putA k l; rw [hp, stepA2_end (by omega), List.append_nil])
    replace hst : St w0 w78 [.blk g72 24 #[v], rowT 5 u8E v ((encA k l).1)] := by rw [congrArg (fun l => rowT 5 u8E v l) e129] at hst; exact hst
    exact ⟨v, (retv2 rfl (congrArg (Value.int .i64) (show 0 = (encA k l).2 from by first | rw [encA_no (Or.inl (by assumption))] | rw [encA_no (Or.inr (by omega))] | (rw [encA_yes hok]; done) | (rw [encA_yes hok]; show _ = putA k l; rw [hp, stepA2_end (by omega), List.append_nil])))), hst.sub (.cons _ (.cons_cons _ .slnil))⟩
  refine s_no 16 rfl (congrArg Value.bool (congrArg (! ·) b65)) ?_
  refine s_no 16 rfl (congrArg Value.bool (congrArg (! ·) b65)) ?_
  refine s_no 16 rfl (congrArg Value.bool (congrArg (! ·) b65)) ?_
  refine s_cons (op_pick_t (.bool true) (congrArg Value.bool (congrArg (! ·) b65)) rfl ?_)
  refine s_nil ?_
  refine then_n ?_
  refine cE_cond true rfl (fun _ => ?_) (fun h => by cases h)
  refine cE_seq ?_
  refine cE_region rfl ?_
  refine s_cons (op_assign (.slice none 0 0) rfl ?_)
  refine s_cons (op_assign (.int .i64 1) rfl ?_)
  refine s_nil ?_
  refine then_n ?_
  refine cE_ret ?_
  refine then_r (scope_r ?_)
  refine post_r _ (res2 (v := (.slice none 0 0)) rfl (x := (.int .i64 1)) rfl) ?_
  replace hst : St w0 w64 [rowT 5 u8E (.slice none 0 0) ([])] := hst.nilRow 5 u8E
  have e130 : [] = (encA k l).1 := by first | rw [encA_no (Or.inl (by assumption))] | rw [encA_no (Or.inr (by omega))] | (rw [encA_yes hok]; done) | (rw [encA_yes hok]; show _ = putA k l; rw [hp, stepA2_end (by omega), List.append_nil])
  replace hst : St w0 w64 [rowT 5 u8E (.slice none 0 0) ((encA k l).1)] := by rw [congrArg (fun l => rowT 5 u8E (.slice none 0 0) l) e130] at hst; exact hst
  exact ⟨(.slice none 0 0), (retv2 rfl (congrArg (Value.int .i64) (show 1 = (encA k l).2 from by first | rw [encA_no (Or.inl (by assumption))] | rw [encA_no (Or.inr (by omega))] | (rw [encA_yes hok]; done) | (rw [encA_yes hok]; show _ = putA k l; rw [hp, stepA2_end (by omega), List.append_nil])))), hst.sub (.cons_cons _ .slnil)⟩

end Go.Proofs.Ytpamjfbdgaamoaa
