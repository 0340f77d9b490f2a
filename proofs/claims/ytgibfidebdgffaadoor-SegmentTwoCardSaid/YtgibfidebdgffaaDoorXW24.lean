/- block.PutAggs$1, block.PutAggs -/
import Derived.Test.YtgibfidebdgffaaDoorXW1
import Derived.Test.YtgibfidebdgffaaDoorXLB
import Derived.Test.YtgibfidebdgffaaDoorXLA
import Derived.Test.YtgibfidebdgffaaDoorXW5
namespace Go.Proofs.YtgibfidebdgffaaDoor
open Go.RowKit

set_option maxRecDepth 8000 in
theorem c_kPut1 {w0 w : World} {L : List Item} (n : Int) (g_pb : Nat) (v_buf : Value) (buf : List UInt8) (n0 : 0 ≤ n) (n1 : n ≤ 18446744073709551615) (hb : buf.length ≤ 1000000) (hst : St w0 w (.blk g_pb 29 #[v_buf] :: rowT 5 u8E v_buf buf :: L)) :
  Calls Tryd.prog 38 #[(.int .u64 n), (.pointer (some ⟨g_pb, 0, none⟩))] w fun e w' => ∃ (r : Value), e = .returned (.tuple #[]) ∧ St w0 w' (.blk g_pb 29 #[r] :: rowT 5 u8E r (buf ++ (put n)) :: L) := by
 refine calls_E (n := 7) (ts := []) Tryd.func38 rfl rfl rfl (by simp) ?_
 have q1 := put_length n
 refine cE_regionM (fun (D : Nat → Bool) (w : World) => St w0 w L ∧ (D 3 = false → St w0 w (.blk g_pb 29 #[v_buf] :: rowT 5 u8E v_buf buf :: L))) [[(1, none)], [(0, none)], [(4, some 1)], [(3, some 0), (5, some 2)], [(1, none), (6, some 3)]] [3, 4] [(kEq v_buf), (kEq (.int .u64 n)), (kSlU [3, 4] u8E (put n)), (fun (D : Nat → Bool) (v3 : Value) (w : World) => (D 3 = true → D 4 = false → St w0 w (rowT 5 u8E v3 (buf ++ (put n)) :: .blk g_pb 29 #[v_buf] :: L)) ∧ (D 4 = true → St w0 w (rowT 5 u8E v3 (buf ++ (put n)) :: .blk g_pb 29 #[v3] :: L))), kAny] ⟨mEq, mEq, (mSlUs (by decide)), (fun D D' v w w' hD hb h2 => ⟨(fun x0 x1 => (h2.1 ((hD 3 (by decide)).symm.trans x0) ((hD 4 (by decide)).symm.trans x1)).ext hb), (fun x0 => (h2.2 ((hD 4 (by decide)).symm.trans x0)).ext hb)⟩), mAny, trivial⟩ (by kernel_rfl) rfl (by kernel_rfl) ⟨hst.drewW.sub (.cons _ (.cons _ (List.Sublist.refl _))), (fun _ => hst.drewW)⟩ (fun hM => ⟨?_, ?_, ?_, ?_, ?_, trivial⟩) ?_
 ·rintro D ρo wo nD eD cD jD aD ⟨f1, _⟩
  have hst := jD.2 (not_yet nD (fun hm => (cD 3 0 hm (by kernel_rfl))))
  replace hst : St w0 wo (.blk g_pb 29 #[v_buf] :: rowT 5 u8E v_buf buf :: L) := hst
  exact go_plain (op_load1 (u := v_buf) Tryd.isAgg29 (f1.trans rfl) (hst.cell 0 rfl) (kN0 (i := 0) hM (by decide) (by exact jD) (by exact rfl)))
 ·rintro D ρo wo nD eD cD jD aD ⟨f0, _⟩
  exact go_plain (op_move (.int .u64 n) (f0.trans rfl) (kN0 (i := 1) hM (by decide) (by exact jD) (by exact rfl)))
 ·rintro D ρo wo nD eD cD jD aD ⟨f4, _⟩
  refine go_plain (op_call Tryd.call16 (evs_cons (v := (.int .u64 n)) f4 evs_nil) (c_Put (w0 := wo) (n := n) (h0 := (by omega)) (h1 := (by omega))) ?_)
  rintro _ w8 ⟨r7, rfl, hcall⟩
  refine ⟨_, rfl, ?_⟩
  exact kN (i := 2) hM (by decide) hcall.below (by exact ⟨(jD.1).ext hcall.below, (fun x0 => (jD.2 x0).ext hcall.below)⟩) (by exact fun _ => hcall.sl 0 rfl)
 ·rintro D ρo wo nD eD cD jD aD ⟨f3, f5, _⟩
  have hst := jD.2 nD
  replace hst : St w0 wo (.blk g_pb 29 #[v_buf] :: rowT 5 u8E v_buf buf :: L) := hst
  obtain ⟨v10, e11⟩ : ∃ x, ρo 5 = x := ⟨_, rfl⟩
  have hs9 := f5 (by intro m hm; simp only [List.mem_cons, List.not_mem_nil, or_false] at hm; rcases hm with rfl | rfl; exact nD; exact (not_yet nD (fun hm => (cD 4 3 hm (by kernel_rfl)))))
  replace hs9 : Sl wo u8E v10 (put n) := e11 ▸ hs9
  refine go_plain (op_append (E := u8E) (xs := buf) (ys := (put n)) (z := (.int .u8 0)) (bytes := 1) hst 1 rfl Tryd.underlying29 (by kernel_rfl) rfl f3 e11 hs9 (by first | omega | (simp; omega) | (simp; done)) (by first | omega | (simp; omega) | (simp; done)) (fun v12 w13 hst => ?_))
  replace hst : St w0 w13 (.blk g_pb 29 #[v_buf] :: rowT 5 u8E v12 (buf ++ (put n)) :: L) := hst
  replace hst : St w0 w13 (rowT 5 u8E v12 (buf ++ (put n)) :: .blk g_pb 29 #[v_buf] :: L) := hst.front 1 rfl
  have hI14 : stabIXs 3 [] D 0 [(kEq v_buf), (kEq (.int .u64 n)), (kSlU [3, 4] u8E (put n)), (fun (D : Nat → Bool) (v3 : Value) (w : World) => (D 3 = true → D 4 = false → St w0 w (rowT 5 u8E v3 (buf ++ (put n)) :: .blk g_pb 29 #[v_buf] :: L)) ∧ (D 4 = true → St w0 w (rowT 5 u8E v3 (buf ++ (put n)) :: .blk g_pb 29 #[v3] :: L))), kAny] := ⟨Or.inr (Or.inr (Or.inr iEq)), Or.inr (Or.inr (Or.inr iEq)), Or.inr (Or.inr (Or.inr (iSlU (by decide)))), Or.inl rfl, Or.inr (Or.inr (Or.inl (not_yet nD (fun hm => (cD 4 3 hm (by kernel_rfl)))))), trivial⟩
  refine ⟨by exact ⟨hst.sub (.cons _ (.cons _ (List.Sublist.refl _))), (fun y0 => absurd y0 (fun h => Bool.noConfusion h))⟩, by exact ⟨(fun y0 y1 => hst.sub (.cons_cons _ (.cons_cons _ (List.Sublist.refl _)))), (fun y0 => absurd (show D 4 = true from y0) (by rw [(not_yet nD (fun hm => (cD 4 3 hm (by kernel_rfl))))]; decide))⟩, kX [] hI14 ?_⟩
  intro j d hj; cases hj
 ·rintro D ρo wo nD eD cD jD aD ⟨f1, f6, _⟩
  obtain ⟨v15, e16⟩ : ∃ x, ρo 6 = x := ⟨_, rfl⟩
  have hh17 := aD 3 6 (eD 3 (by kernel_rfl)) rfl
  have hst : St w0 wo (rowT 5 u8E v15 (buf ++ (put n)) :: .blk g_pb 29 #[v_buf] :: L) := by have h := hh17.1 (eD 3 (by kernel_rfl)) nD; rw [e16] at h; exact h
  refine go_plain (op_store1 hst 1 rfl Tryd.sizeOf29 (f1.trans rfl) e16 (sl_one (show Sl _ u8E v15 (buf ++ (put n)) from (hst.sl 0 rfl))) (show 0 < 1 from by decide) (fun w18 hst => ?_))
  replace hst : St w0 w18 (rowT 5 u8E v15 (buf ++ (put n)) :: .blk g_pb 29 #[v15] :: L) := hst
  have hI19 : stabIXs 4 [3] D 0 [(kEq v_buf), (kEq (.int .u64 n)), (kSlU [3, 4] u8E (put n)), (fun (D : Nat → Bool) (v3 : Value) (w : World) => (D 3 = true → D 4 = false → St w0 w (rowT 5 u8E v3 (buf ++ (put n)) :: .blk g_pb 29 #[v_buf] :: L)) ∧ (D 4 = true → St w0 w (rowT 5 u8E v3 (buf ++ (put n)) :: .blk g_pb 29 #[v3] :: L))), kAny] := ⟨Or.inr (Or.inr (Or.inr iEq)), Or.inr (Or.inr (Or.inr iEq)), Or.inr (Or.inr (Or.inr (iSlU (by decide)))), Or.inr (Or.inl (by decide)), Or.inl rfl, trivial⟩
  refine ⟨by exact ⟨hst.sub (.cons _ (.cons _ (List.Sublist.refl _))), (fun y0 => absurd (show D 3 = false from y0) (by rw [(eD 3 (by kernel_rfl))]; decide))⟩, by exact trivial, kX [3] hI19 ?_⟩
  intro j d hj hjd hDj h
  simp only [List.mem_cons, List.not_mem_nil, or_false] at hj
  subst hj
  obtain rfl : 6 = d := Option.some.inj hjd
  exact (by rw [e16]; exact ⟨(fun y0 y1 => absurd y1 (fun h => Bool.noConfusion h)), (fun y0 => hst.sub (.cons_cons _ (.cons_cons _ (List.Sublist.refl _))))⟩)
 intro ρ20 w21 Dw21 hallw21 hJw21 hRw21 hkw21
 obtain ⟨v22, uw21_6⟩ : ∃ x, ρ20 6 = x := ⟨_, rfl⟩
 have hst : St w0 w21 (rowT 5 u8E v22 (buf ++ (put n)) :: .blk g_pb 29 #[v22] :: L) := by have h := hRw21 3 6 rfl; rw [uw21_6] at h; exact (h.2 (hallw21 4 (show 4 < 5 from by decide)))
 refine post_n (.tuple #[]) rfl ?_
 replace hst : St w0 w21 (.blk g_pb 29 #[v22] :: rowT 5 u8E v22 (buf ++ (put n)) :: L) := hst.front 1 rfl
 exact ⟨v22, rfl, hst.sub (.cons_cons _ (.cons_cons _ (List.Sublist.refl _)))⟩

set_option maxRecDepth 8000 in
set_option maxHeartbeats 4000000 in
theorem c_kPutAggs (w0 : World) (v_l : Value) (l : List Agg) (h_l : Sl w0 aggE v_l l) (k : Int) (hl : ∀ a ∈ l, a.ok) (k0 : -9223372036854775808 ≤ k) (k1 : k ≤ 9223372036854775807) :
  Calls Tryd.prog 18 #[v_l, (iV k)] w0 fun e w' => ∃ (r : Value), e = .returned (.tuple #[r, (iV ((encA k l).2))]) ∧ St w0 w' [rowT 5 u8E r ((encA k l).1)] := by
 refine calls_E (n := 93) (ts := [4, 5]) Tryd.func18 rfl rfl rfl (by simp) ?_
 have hst := St.start w0
 refine cE_seq (cE_region rfl (s_cons (op_assign nS rfl (s_cons (op_assign (iV 0) rfl (s_nil (then_n (cE_scope (cE_seq (cE_seq (cE_region rfl (s_cons (op_move v_l rfl (s_cons (op_move (iV k) rfl (s_cons (op_call Tryd.call25 (evs_cons (v := v_l) rfl (evs_cons (v := (iV k)) rfl evs_nil)) (c_Aligned (w0 := w0) (v_l := v_l) (l := l) (h_l := (h_l.below hst.below)) (k := k) (hl := hl) (k0 := (by omega)) (k1 := (by omega))) ?_)))))))))))))))))
 rintro _ w23 ⟨rfl, hcall⟩
 refine ⟨_, rfl, ?_⟩
 have hst : St w0 w23 [] := hst.call hcall
 refine s_cons (op_not (b := alignedA l k) rfl (s_cons (op_move (.bool (!(alignedA l k))) rfl ?_)))
 rcases Bool.eq_false_or_eq_true (alignedA l k) with b24 | b24
 ·have hal := b24
  refine s_yes 16 rfl (congrArg Value.bool (congrArg (! ·) b24)) (op_move v_l rfl (s_yes 16 rfl (congrArg Value.bool (congrArg (! ·) b24)) (op_len (E := aggE) (xs := l) Tryd.underlying24 rfl h_l (s_yes 16 rfl (congrArg Value.bool (congrArg (! ·) b24)) (op_gtr (k := .i64) (a := (l.length : Int)) (b := 64) rfl rfl (s_cons (op_pick_f (.bool (decide (64 < (l.length : Int)))) (congrArg Value.bool (congrArg (! ·) b24)) rfl ?_)))))))
  refine s_nil (then_n ?_)
  rcases Bool.eq_false_or_eq_true (decide (64 < (l.length : Int))) with b25 | b25
  ·have c26 : 64 < (l.length : Int) := of_decide_eq_true b25
   refine cE_cond true (congrArg Value.bool b25) (fun _ => ?_) (fun h => by cases h)
   refine cE_seq (cE_region rfl (s_cons (op_assign nS rfl (s_cons (op_assign (iV 1) rfl (s_nil (then_n (cE_ret (then_r (scope_r (post_r _ (res2 (v := nS) rfl (x := (iV 1)) rfl) ?_)))))))))))
   replace hst : St w0 w23 [rowT 5 u8E nS ([])] := hst.nilRow 5 u8E
   have e27 : [] = (encA k l).1 := by first | rw [encA_no (Or.inl (by assumption))] | rw [encA_no (Or.inr (by omega))] | (rw [encA_yes hok]; done) | (rw [encA_yes hok]; show _ = putA k l; rw [hp, stepA2_end (by omega), List.append_nil])
   replace hst : St w0 w23 [rowT 5 u8E nS ((encA k l).1)] := by rw [congrArg (fun l => rowT 5 u8E nS l) e27] at hst; exact hst
   exact ⟨nS, (retv2 rfl (congrArg iV (show 1 = (encA k l).2 from by first | rw [encA_no (Or.inl (by assumption))] | rw [encA_no (Or.inr (by omega))] | (rw [encA_yes hok]; done) | (rw [encA_yes hok]; show _ = putA k l; rw [hp, stepA2_end (by omega), List.append_nil])))), hst.sub (.cons_cons _ .slnil)⟩
  have c28 : ¬ (64 < (l.length : Int)) := of_decide_eq_false b25
  refine cE_cond false (congrArg Value.bool b25) (fun h => by cases h) (fun _ => ?_)
  refine cE_skip (then_n (cE_seq ?_))
  have hok := okA_iff.2 ⟨hal, (by omega : l.length ≤ 64)⟩
  have hp0 := put_length (l.length : Int)
  have hwp := width_pos (okA_coarse hok)
  have hwr := width_r k
  refine cE_region rfl (s_cons (op_move v_l rfl (s_cons (op_len (E := aggE) (xs := l) Tryd.underlying24 rfl h_l (s_cons (op_conv (k := .i64) (a := (l.length : Int)) (l.length : Int) Tryd.underlying54 (by rw [Tryd.underlying3]; rfl) rfl (xu64 (by omega) (by omega)) (s_cons (op_call Tryd.call16 (evs_cons (v := (.int .u64 (l.length : Int))) rfl evs_nil) (c_Put (w0 := w23) (n := (l.length : Int)) (h0 := (by omega)) (h1 := (by omega))) ?_))))))))
  rintro _ w30 ⟨r29, rfl, hcall⟩
  refine ⟨_, rfl, ?_⟩
  have hst : St w0 w30 [rowT 5 u8E r29 (put (l.length : Int))] := hst.call hcall
  refine s_cons (op_alloc (cs := #[nS]) hst Tryd.zeroValue29 rfl (fun g31 w32 hst _ => ?_))
  replace hst : St w0 w32 [.blk g31 29 #[nS], rowT 5 u8E r29 (put (l.length : Int))] := hst
  refine s_cons0 (op_store1 hst 0 rfl Tryd.sizeOf29 rfl rfl (sl_one (show Sl _ u8E r29 (put (l.length : Int)) from (hst.sl 1 rfl))) (show 0 < 1 from by decide) (fun w33 hst => ?_))
  replace hst : St w0 w33 [.blk g31 29 #[r29], rowT 5 u8E r29 (put (l.length : Int))] := hst
  refine s_nil (then_n (cE_seq (cE_region rfl (s_cons (op_makeFunc (evs_cons (v := (.pointer (some ⟨g31, 0, none⟩))) rfl evs_nil) (s_cons (op_assign (.func (.func 38) #[] #[(.pointer (some ⟨g31, 0, none⟩))]) rfl (s_nil (then_n (cE_seq (cE_region rfl (s_cons (op_assign (iV (-1)) rfl (s_nil (then_n (cE_seq (cE_label (then_n (cE_seq (cE_seq (cE_region rfl (s_cons (op_move v_l rfl ?_)))))))))))))))))))))))
  refine s_cons (op_len (E := aggE) (xs := l) Tryd.underlying24 rfl h_l (s_cons (op_move (iV 0) rfl (s_nil (then_n (cE_block (cE_loop (fun (m : Nat) (ρ : Env) (w : World) => ∃ (v : Value) (done : List UInt8) (i : Nat), m = l.length - i ∧ ρ 0 = v_l ∧ ρ 1 = (iV k) ∧ ρ 4 = nS ∧ ρ 5 = (iV 0) ∧ ρ 6 = (.pointer (some ⟨g31, 0, none⟩)) ∧ ρ 7 = (.func (.func 38) #[] #[(.pointer (some ⟨g31, 0, none⟩))]) ∧ ρ 26 = v_l ∧ ρ 27 = (iV (l.length : Int)) ∧ ρ 28 = (iV (i : Int)) ∧ ρ 8 = (iV (lastW (widthA k) l i)) ∧ St w0 w [.blk g31 29 #[v], rowT 5 u8E v done] ∧ (i ≤ l.length) ∧ (done.length ≤ 10 + 70 * i) ∧ (putA k l = done ++ stepA2 (widthA k) (lastW (widthA k) l i) (l.drop i))) id _ ⟨r29, (put (l.length : Int)), 0, rfl, rfl, rfl, rfl, rfl, rfl, rfl, rfl, rfl, (congrArg iV (show 0 = _ from by omega)), (congrArg iV (show (-1) = _ from by first | rfl | exact (lastW_succ (by omega)).symm)), hst, (by omega), (by first | omega | (simp; omega)), (by first | rfl | (rw [hp, stepA2_one (by omega) (by assumption)]; simp; done) | (rw [hp, stepA2_many (by omega) (by assumption)]; simp; done))⟩ ?_)))))))
  rintro m35 ρ36 w37 ⟨v, done, i, hm35, q34_0, q34_1, q34_4, q34_5, q34_6, q34_7, q34_26, q34_27, q34_28, q34_8, hst, hi, hdl, hp⟩
  have hlen := h_l.len
  refine cE_seq (cE_region rfl (s_cons (op_lss (k := .i64) (a := (i : Int)) (b := (l.length : Int)) q34_28 q34_27 (s_nil (then_n (cE_seq ?_))))))
  rcases Bool.eq_false_or_eq_true (decide ((i : Int) < (l.length : Int))) with b38 | b38
  ·have c39 : (i : Int) < (l.length : Int) := of_decide_eq_true b38
   refine cE_cond true (congrArg Value.bool b38) (fun _ => ?_) (fun h => by cases h)
   refine cE_skip (then_n (cE_seq (cE_block (cE_seq ?_))))
   have hwn := aligned_at hal (show i < l.length by omega)
   have hoa := hl _ (List.getElem_mem (show i < l.length by omega))
   have hlg := lastW_ge hal (i := i) (by omega)
   simp only [Agg.ok, i64R] at hoa
   have hz1 := zig_r (m := (l[i]'(by omega)).Min) (by simp only [i64R]; omega)
   have hz2 := zig_r (m := (l[i]'(by omega)).Sum) (by simp only [i64R]; omega)
   have q0 := put_length ((l[i]'(by omega)).From / widthA k - lastW (widthA k) l i - 1)
   have q1 := put_length ((l[i]'(by omega)).Count - 1)
   have q2 := put_length (zig (l[i]'(by omega)).Min)
   have q3 := put_length ((l[i]'(by omega)).Max - (l[i]'(by omega)).Min)
   have q4 := put_length (zig (l[i]'(by omega)).Sum)
   have q5 := put_length ((l[i]'(by omega)).First - (l[i]'(by omega)).Min)
   have q6 := put_length ((l[i]'(by omega)).Last - (l[i]'(by omega)).Min)
   refine cE_region rfl (s_cons (op_indexAddrN (E := aggE) (xs := l) i Tryd.underlying24 Tryd.sizeOf45 q34_26 h_l q34_28 (by omega) (by first | omega | (simp; omega) | (simp; done)) (fun a40 o41 p42 => ?_)))
   refine s_cons (op_loadN (cs := (aggC (l[i]'(by first | omega | (simp; omega) | (simp; done))))) Tryd.isAgg45 Tryd.sizeOf45 rfl (Pt.of (p42.below hst.below) rfl) rfl (s_cons (op_alloc (cs := #[(iV 0), (iV 0), (iV 0), (iV 0), (iV 0), (iV 0), (iV 0)]) hst Tryd.zeroValue45 rfl (fun g43 w44 hst _ => ?_))))
   replace hst : St w0 w44 [.blk g43 45 #[(iV 0), (iV 0), (iV 0), (iV 0), (iV 0), (iV 0), (iV 0)], .blk g31 29 #[v], rowT 5 u8E v done] := hst
   refine s_cons0 (op_storeAll hst 0 rfl Tryd.sizeOf45 rfl rfl rfl rfl (by simp [Value.oneCell']) (fun w45 hst => ?_))
   replace hst : St w0 w45 [.blk g43 45 (aggA (l[i]'(by first | omega | (simp; omega) | (simp; done)))), .blk g31 29 #[v], rowT 5 u8E v done] := hst
   refine s_nil (then_n (cE_seq (cE_regionL hst [[(10, none)], [(32, some 0)], [(1, none)], [(34, some 2)], [(33, some 1), (35, some 3)], [(36, some 4)]] [(rEq (.pointer (some ⟨g43, (0 + 0), none⟩))), (rEq (iV ((l[i]'(by first | omega | (simp; omega) | (simp; done))).From))), (rEq (iV k)), (rEq (iV (widthA k))), (rEq (iV (((l[i]'(by first | omega | (simp; omega) | (simp; done))).From) / (widthA k)))), (rEq (iV (((l[i]'(by first | omega | (simp; omega) | (simp; done))).From) / (widthA k))))] (by kernel_rfl) rfl (by kernel_rfl) ⟨sEq, sEq, sEq, sEq, sEq, sEq, trivial⟩ ⟨?_, ?_, ?_, ?_, ?_, ?_, trivial⟩ ?_)))
   ·rintro ρ47 w48 hj49 ⟨f10, _⟩
    have hst := hj49.2
    exact go_plain (op_fieldAddr (s := 0) Tryd.underlying45 rfl rfl Tryd.sizeOf2 (f10.trans rfl) (kS hj49 rfl))
   ·rintro ρ50 w51 hj52 ⟨f32, _⟩
    have hst := hj52.2
    exact go_plain (op_load1 (u := (iV ((l[i]'(by first | omega | (simp; omega) | (simp; done))).From))) Tryd.isAgg2 f32 (hst.cell 0 rfl) (kS hj52 rfl))
   ·rintro ρ53 w54 hj55 ⟨f1, _⟩
    have hst := hj55.2
    exact go_plain (op_move (iV k) (f1.trans q34_1) (kS hj55 rfl))
   ·rintro ρ56 w57 hj58 ⟨f34, _⟩
    have hst := hj58.2
    refine go_plain (op_call Tryd.call39 (evs_cons (v := (iV k)) f34 evs_nil) (c_Width (w0 := w57) (k := k) (k0 := (by omega)) (k1 := (by omega))) ?_)
    rintro _ w59 ⟨rfl, hcall⟩
    refine ⟨_, rfl, ?_⟩
    exact kD hj58 hcall rfl
   ·rintro ρ60 w61 hj62 ⟨f33, f35, _⟩
    have hst := hj62.2
    exact go_plain (op_quo (k := .i64) (a := (l[i]'(by first | omega | (simp; omega) | (simp; done))).From) (b := (widthA k)) (((l[i]'(by first | omega | (simp; omega) | (simp; done))).From) / (widthA k)) f33 f35 (by omega) (quo_x (by omega) (by omega) (xi64 (by omega) (by omega))) (kS hj62 rfl))
   ·rintro ρ63 w64 hj65 ⟨f36, _⟩
    have hst := hj65.2
    exact go_plain (op_assign (iV (((l[i]'(by first | omega | (simp; omega) | (simp; done))).From) / (widthA k))) f36 (kS hj65 rfl))
   intro ρ66 w67 hbw67 hst hRw67 hkw67
   have uw67_0 : ρ66 0 = v_l := (hkw67 0 rfl).trans q34_0
   have uw67_1 : ρ66 1 = (iV k) := (hkw67 1 rfl).trans q34_1
   have uw67_4 : ρ66 4 = nS := (hkw67 4 rfl).trans q34_4
   have uw67_5 : ρ66 5 = (iV 0) := (hkw67 5 rfl).trans q34_5
   have uw67_6 : ρ66 6 = (.pointer (some ⟨g31, 0, none⟩)) := (hkw67 6 rfl).trans q34_6
   have uw67_7 : ρ66 7 = (.func (.func 38) #[] #[(.pointer (some ⟨g31, 0, none⟩))]) := (hkw67 7 rfl).trans q34_7
   have uw67_26 : ρ66 26 = v_l := (hkw67 26 rfl).trans q34_26
   have uw67_27 : ρ66 27 = (iV (l.length : Int)) := (hkw67 27 rfl).trans q34_27
   have uw67_28 : ρ66 28 = (iV (i : Int)) := (hkw67 28 rfl).trans q34_28
   have uw67_8 : ρ66 8 = (iV (lastW (widthA k) l i)) := (hkw67 8 rfl).trans q34_8
   have uw67_29 : ρ66 29 = (.bool (decide ((i : Int) < (l.length : Int)))) := (hkw67 29 rfl).trans rfl
   have uw67_30 : ρ66 30 = (.pointer (some ⟨a40, o41, none⟩)) := (hkw67 30 rfl).trans rfl
   have uw67_31 : ρ66 31 = (.agg (aggA (l[i]'(by first | omega | (simp; omega) | (simp; done))))) := (hkw67 31 rfl).trans rfl
   have uw67_10 : ρ66 10 = (.pointer (some ⟨g43, 0, none⟩)) := (hkw67 10 rfl).trans rfl
   have uw67_11 : ρ66 11 = (iV (((l[i]'(by first | omega | (simp; omega) | (simp; done))).From) / (widthA k))) := hRw67 5 11 rfl
   refine then_n (cE_seq (cE_region rfl (s_cons (op_move (.func (.func 38) #[] #[(.pointer (some ⟨g31, 0, none⟩))]) uw67_7 (s_cons (op_move (iV (((l[i]'(by first | omega | (simp; omega) | (simp; done))).From) / (widthA k))) uw67_11 (s_cons (op_move (iV (lastW (widthA k) l i)) uw67_8 (s_cons (op_sub (k := .i64) (a := (((l[i]'(by first | omega | (simp; omega) | (simp; done))).From) / (widthA k))) (b := (lastW (widthA k) l i)) ((((l[i]'(by first | omega | (simp; omega) | (simp; done))).From) / (widthA k)) - (lastW (widthA k) l i)) rfl rfl (xi64 (by omega) (by omega)) ?_))))))))))
   refine s_cons (op_sub (k := .i64) (a := ((((l[i]'(by first | omega | (simp; omega) | (simp; done))).From) / (widthA k)) - (lastW (widthA k) l i))) (b := 1) (((((l[i]'(by first | omega | (simp; omega) | (simp; done))).From) / (widthA k)) - (lastW (widthA k) l i)) - 1) rfl rfl (xi64 (by omega) (by omega)) (s_cons (op_conv (k := .i64) (a := (((((l[i]'(by first | omega | (simp; omega) | (simp; done))).From) / (widthA k)) - (lastW (widthA k) l i)) - 1)) (((((l[i]'(by first | omega | (simp; omega) | (simp; done))).From) / (widthA k)) - (lastW (widthA k) l i)) - 1) Tryd.underlying54 (by rw [Tryd.underlying2]; rfl) rfl (xu64 (by omega) (by omega)) ?_)))
   replace hst : St w0 w67 [rowT 5 u8E v done, .blk g43 45 (aggA (l[i]'(by first | omega | (simp; omega) | (simp; done)))), .blk g31 29 #[v]] := hst.front 2 rfl
   replace hst : St w0 w67 [.blk g31 29 #[v], rowT 5 u8E v done, .blk g43 45 (aggA (l[i]'(by first | omega | (simp; omega) | (simp; done))))] := hst.front 2 rfl
   refine s_cons (op_callv (cs := [(.pointer (some ⟨g31, 0, none⟩))]) Tryd.call38 rfl (evs_cons (v := (.int .u64 (((((l[i]'(by first | omega | (simp; omega) | (simp; done))).From) / (widthA k)) - (lastW (widthA k) l i)) - 1))) rfl evs_nil) (c_kPut1 (n := (((((l[i]'(by first | omega | (simp; omega) | (simp; done))).From) / (widthA k)) - (lastW (widthA k) l i)) - 1)) (g_pb := g31) (v_buf := v) (buf := done) (n0 := (by omega)) (n1 := (by omega)) (hb := (by first | omega | (simp; omega))) (hst := hst)) ?_)
   rintro _ w69 ⟨r68, rfl, hcall⟩
   refine ⟨_, rfl, ?_⟩
   have hst : St w0 w69 [.blk g31 29 #[r68], rowT 5 u8E r68 (done ++ (put (((((l[i]'(by first | omega | (simp; omega) | (simp; done))).From) / (widthA k)) - (lastW (widthA k) l i)) - 1))), .blk g43 45 (aggA (l[i]'(by first | omega | (simp; omega) | (simp; done))))] := hcall
   refine s_nil (then_n (cE_seq (cE_region rfl (s_cons (op_move (.func (.func 38) #[] #[(.pointer (some ⟨g31, 0, none⟩))]) uw67_7 (s_cons (op_fieldAddr (s := 0) Tryd.underlying45 rfl rfl Tryd.sizeOf2 uw67_10 (s_cons (op_load1 (u := (iV ((l[i]'(by first | omega | (simp; omega) | (simp; done))).Count))) Tryd.isAgg2 rfl ((hst.cell 2 rfl).drop 1) (s_cons (op_sub (k := .i64) (a := (l[i]'(by first | omega | (simp; omega) | (simp; done))).Count) (b := 1) (((l[i]'(by first | omega | (simp; omega) | (simp; done))).Count) - 1) rfl rfl (xi64 (by omega) (by omega)) ?_)))))))))))
   refine s_cons (op_conv (k := .i64) (a := (((l[i]'(by first | omega | (simp; omega) | (simp; done))).Count) - 1)) (((l[i]'(by first | omega | (simp; omega) | (simp; done))).Count) - 1) Tryd.underlying54 (by rw [Tryd.underlying2]; rfl) rfl (xu64 (by omega) (by omega)) (s_cons (op_callv (cs := [(.pointer (some ⟨g31, 0, none⟩))]) Tryd.call38 rfl (evs_cons (v := (.int .u64 (((l[i]'(by first | omega | (simp; omega) | (simp; done))).Count) - 1))) rfl evs_nil) (c_kPut1 (n := (((l[i]'(by first | omega | (simp; omega) | (simp; done))).Count) - 1)) (g_pb := g31) (v_buf := r68) (buf := (done ++ (put (((((l[i]'(by first | omega | (simp; omega) | (simp; done))).From) / (widthA k)) - (lastW (widthA k) l i)) - 1)))) (n0 := (by omega)) (n1 := (by omega)) (hb := (by first | omega | (simp; omega))) (hst := hst)) ?_)))
   rintro _ w71 ⟨r70, rfl, hcall⟩
   refine ⟨_, rfl, ?_⟩
   have hst : St w0 w71 [.blk g31 29 #[r70], rowT 5 u8E r70 ((done ++ (put (((((l[i]'(by first | omega | (simp; omega) | (simp; done))).From) / (widthA k)) - (lastW (widthA k) l i)) - 1))) ++ (put (((l[i]'(by first | omega | (simp; omega) | (simp; done))).Count) - 1))), .blk g43 45 (aggA (l[i]'(by first | omega | (simp; omega) | (simp; done))))] := hcall
   refine s_nil (then_n (cE_seq (cE_region rfl (s_cons (op_move (.func (.func 38) #[] #[(.pointer (some ⟨g31, 0, none⟩))]) uw67_7 (s_cons (op_fieldAddr (s := 0) Tryd.underlying45 rfl rfl Tryd.sizeOf2 uw67_10 (s_cons (op_load1 (u := (iV ((l[i]'(by first | omega | (simp; omega) | (simp; done))).Min))) Tryd.isAgg2 rfl ((hst.cell 2 rfl).drop 3) (s_cons (op_call Tryd.call37 (evs_cons (v := (iV ((l[i]'(by first | omega | (simp; omega) | (simp; done))).Min))) rfl evs_nil) (c_Zig (w0 := w71) (m := (l[i]'(by first | omega | (simp; omega) | (simp; done))).Min) (h0 := (by omega)) (h1 := (by omega))) ?_)))))))))))
   rintro _ w72 ⟨rfl, hcall⟩
   refine ⟨_, rfl, ?_⟩
   have hst : St w0 w72 [.blk g31 29 #[r70], rowT 5 u8E r70 ((done ++ (put (((((l[i]'(by first | omega | (simp; omega) | (simp; done))).From) / (widthA k)) - (lastW (widthA k) l i)) - 1))) ++ (put (((l[i]'(by first | omega | (simp; omega) | (simp; done))).Count) - 1))), .blk g43 45 (aggA (l[i]'(by first | omega | (simp; omega) | (simp; done))))] := hst.call hcall
   refine s_cons (op_callv (cs := [(.pointer (some ⟨g31, 0, none⟩))]) Tryd.call38 rfl (evs_cons (v := (.int .u64 (zig ((l[i]'(by first | omega | (simp; omega) | (simp; done))).Min)))) rfl evs_nil) (c_kPut1 (n := (zig ((l[i]'(by first | omega | (simp; omega) | (simp; done))).Min))) (g_pb := g31) (v_buf := r70) (buf := ((done ++ (put (((((l[i]'(by first | omega | (simp; omega) | (simp; done))).From) / (widthA k)) - (lastW (widthA k) l i)) - 1))) ++ (put (((l[i]'(by first | omega | (simp; omega) | (simp; done))).Count) - 1)))) (n0 := (by omega)) (n1 := (by omega)) (hb := (by first | omega | (simp; omega))) (hst := hst)) ?_)
   rintro _ w74 ⟨r73, rfl, hcall⟩
   refine ⟨_, rfl, ?_⟩
   have hst : St w0 w74 [.blk g31 29 #[r73], rowT 5 u8E r73 (((done ++ (put (((((l[i]'(by first | omega | (simp; omega) | (simp; done))).From) / (widthA k)) - (lastW (widthA k) l i)) - 1))) ++ (put (((l[i]'(by first | omega | (simp; omega) | (simp; done))).Count) - 1))) ++ (put (zig ((l[i]'(by first | omega | (simp; omega) | (simp; done))).Min)))), .blk g43 45 (aggA (l[i]'(by first | omega | (simp; omega) | (simp; done))))] := hcall
   refine s_nil (then_n (cE_seq (cE_region rfl (s_cons (op_move (iV (((l[i]'(by first | omega | (simp; omega) | (simp; done))).From) / (widthA k))) uw67_11 (s_cons (op_assign (iV (((l[i]'(by first | omega | (simp; omega) | (simp; done))).From) / (widthA k))) rfl (s_nil (then_n (cE_seq (cE_seq (cE_region rfl (s_cons (op_fieldAddr (s := 0) Tryd.underlying45 rfl rfl Tryd.sizeOf2 uw67_10 ?_))))))))))))))
   refine s_cons (op_load1 (u := (iV ((l[i]'(by first | omega | (simp; omega) | (simp; done))).Count))) Tryd.isAgg2 rfl ((hst.cell 2 rfl).drop 1) (s_cons (op_eql (k := .i64) (a := (l[i]'(by first | omega | (simp; omega) | (simp; done))).Count) (b := 1) rfl rfl (s_nil (then_n ?_)))))
   rcases Bool.eq_false_or_eq_true (decide (((l[i]'(by first | omega | (simp; omega) | (simp; done))).Count) = 1)) with b75 | b75
   ·have c76 : ((l[i]'(by first | omega | (simp; omega) | (simp; done))).Count) = 1 := of_decide_eq_true b75
    refine cE_cond true (congrArg Value.bool b75) (fun _ => ?_) (fun h => by cases h)
    refine cE_exit (then_x (block_hit (then_n (cE_region rfl (s_cons (op_add (k := .i64) (a := (i : Int)) (b := 1) ((i : Int) + 1) uw67_28 rfl (xi64 (by omega) (by omega)) (s_cons (op_move (iV ((i : Int) + 1)) rfl (s_nil (then_n ?_))))))))))
    exact ⟨_, ⟨r73, (((done ++ (put (((((l[i]'(by first | omega | (simp; omega) | (simp; done))).From) / (widthA k)) - (lastW (widthA k) l i)) - 1))) ++ (put (((l[i]'(by first | omega | (simp; omega) | (simp; done))).Count) - 1))) ++ (put (zig ((l[i]'(by first | omega | (simp; omega) | (simp; done))).Min)))), (i + 1), rfl, uw67_0, uw67_1, uw67_4, uw67_5, uw67_6, uw67_7, uw67_26, uw67_27, (congrArg iV (show ((i : Int) + 1) = _ from by omega)), (congrArg iV (show (((l[i]'(by first | omega | (simp; omega) | (simp; done))).From) / (widthA k)) = _ from by first | rfl | exact (lastW_succ (by omega)).symm)), (hst.sub (.cons_cons _ (.cons_cons _ (.cons _ .slnil)))), (by omega), (by first | omega | (simp; omega)), (by first | rfl | (rw [hp, stepA2_one (by omega) (by assumption)]; simp; done) | (rw [hp, stepA2_many (by omega) (by assumption)]; simp; done))⟩, (by simp only [id]; omega)⟩
   have c77 : ¬ (((l[i]'(by first | omega | (simp; omega) | (simp; done))).Count) = 1) := of_decide_eq_false b75
   refine cE_cond false (congrArg Value.bool b75) (fun h => by cases h) (fun _ => ?_)
   refine cE_skip (then_n (cE_seq (cE_region rfl (s_cons (op_move (.func (.func 38) #[] #[(.pointer (some ⟨g31, 0, none⟩))]) uw67_7 (s_cons (op_fieldAddr (s := 0) Tryd.underlying45 rfl rfl Tryd.sizeOf2 uw67_10 (s_cons (op_load1 (u := (iV ((l[i]'(by first | omega | (simp; omega) | (simp; done))).Max))) Tryd.isAgg2 rfl ((hst.cell 2 rfl).drop 4) (s_cons (op_conv (k := .i64) (a := (l[i]'(by first | omega | (simp; omega) | (simp; done))).Max) ((l[i]'(by first | omega | (simp; omega) | (simp; done))).Max % 18446744073709551616) Tryd.underlying54 (by rw [Tryd.underlying2]; rfl) rfl (IntKind.wrap_u64 _) ?_)))))))))))
   refine s_cons (op_fieldAddr (s := 0) Tryd.underlying45 rfl rfl Tryd.sizeOf2 uw67_10 (s_cons (op_load1 (u := (iV ((l[i]'(by first | omega | (simp; omega) | (simp; done))).Min))) Tryd.isAgg2 rfl ((hst.cell 2 rfl).drop 3) (s_cons (op_conv (k := .i64) (a := (l[i]'(by first | omega | (simp; omega) | (simp; done))).Min) ((l[i]'(by first | omega | (simp; omega) | (simp; done))).Min % 18446744073709551616) Tryd.underlying54 (by rw [Tryd.underlying2]; rfl) rfl (IntKind.wrap_u64 _) ?_)))))
   refine s_cons (op_sub (k := .u64) (a := ((l[i]'(by first | omega | (simp; omega) | (simp; done))).Max % 18446744073709551616)) (b := ((l[i]'(by first | omega | (simp; omega) | (simp; done))).Min % 18446744073709551616)) ((l[i]'(by omega)).Max - (l[i]'(by omega)).Min) rfl rfl (u64_sub (by simp only [i64R]; omega) (by simp only [i64R]; omega) (by omega)) (s_cons (op_callv (cs := [(.pointer (some ⟨g31, 0, none⟩))]) Tryd.call38 rfl (evs_cons (v := (.int .u64 ((l[i]'(by omega)).Max - (l[i]'(by omega)).Min))) rfl evs_nil) (c_kPut1 (n := ((l[i]'(by omega)).Max - (l[i]'(by omega)).Min)) (g_pb := g31) (v_buf := r73) (buf := (((done ++ (put (((((l[i]'(by first | omega | (simp; omega) | (simp; done))).From) / (widthA k)) - (lastW (widthA k) l i)) - 1))) ++ (put (((l[i]'(by first | omega | (simp; omega) | (simp; done))).Count) - 1))) ++ (put (zig ((l[i]'(by first | omega | (simp; omega) | (simp; done))).Min))))) (n0 := (by omega)) (n1 := (by omega)) (hb := (by first | omega | (simp; omega))) (hst := hst)) ?_)))
   rintro _ w79 ⟨r78, rfl, hcall⟩
   refine ⟨_, rfl, ?_⟩
   have hst : St w0 w79 [.blk g31 29 #[r78], rowT 5 u8E r78 ((((done ++ (put (((((l[i]'(by first | omega | (simp; omega) | (simp; done))).From) / (widthA k)) - (lastW (widthA k) l i)) - 1))) ++ (put (((l[i]'(by first | omega | (simp; omega) | (simp; done))).Count) - 1))) ++ (put (zig ((l[i]'(by first | omega | (simp; omega) | (simp; done))).Min)))) ++ (put ((l[i]'(by omega)).Max - (l[i]'(by omega)).Min))), .blk g43 45 (aggA (l[i]'(by first | omega | (simp; omega) | (simp; done))))] := hcall
   refine s_nil (then_n (cE_seq (cE_region rfl (s_cons (op_move (.func (.func 38) #[] #[(.pointer (some ⟨g31, 0, none⟩))]) uw67_7 (s_cons (op_fieldAddr (s := 0) Tryd.underlying45 rfl rfl Tryd.sizeOf2 uw67_10 (s_cons (op_load1 (u := (iV ((l[i]'(by first | omega | (simp; omega) | (simp; done))).Sum))) Tryd.isAgg2 rfl ((hst.cell 2 rfl).drop 2) (s_cons (op_call Tryd.call37 (evs_cons (v := (iV ((l[i]'(by first | omega | (simp; omega) | (simp; done))).Sum))) rfl evs_nil) (c_Zig (w0 := w79) (m := (l[i]'(by first | omega | (simp; omega) | (simp; done))).Sum) (h0 := (by omega)) (h1 := (by omega))) ?_)))))))))))
   rintro _ w80 ⟨rfl, hcall⟩
   refine ⟨_, rfl, ?_⟩
   have hst : St w0 w80 [.blk g31 29 #[r78], rowT 5 u8E r78 ((((done ++ (put (((((l[i]'(by first | omega | (simp; omega) | (simp; done))).From) / (widthA k)) - (lastW (widthA k) l i)) - 1))) ++ (put (((l[i]'(by first | omega | (simp; omega) | (simp; done))).Count) - 1))) ++ (put (zig ((l[i]'(by first | omega | (simp; omega) | (simp; done))).Min)))) ++ (put ((l[i]'(by omega)).Max - (l[i]'(by omega)).Min))), .blk g43 45 (aggA (l[i]'(by first | omega | (simp; omega) | (simp; done))))] := hst.call hcall
   refine s_cons (op_callv (cs := [(.pointer (some ⟨g31, 0, none⟩))]) Tryd.call38 rfl (evs_cons (v := (.int .u64 (zig ((l[i]'(by first | omega | (simp; omega) | (simp; done))).Sum)))) rfl evs_nil) (c_kPut1 (n := (zig ((l[i]'(by first | omega | (simp; omega) | (simp; done))).Sum))) (g_pb := g31) (v_buf := r78) (buf := ((((done ++ (put (((((l[i]'(by first | omega | (simp; omega) | (simp; done))).From) / (widthA k)) - (lastW (widthA k) l i)) - 1))) ++ (put (((l[i]'(by first | omega | (simp; omega) | (simp; done))).Count) - 1))) ++ (put (zig ((l[i]'(by first | omega | (simp; omega) | (simp; done))).Min)))) ++ (put ((l[i]'(by omega)).Max - (l[i]'(by omega)).Min)))) (n0 := (by omega)) (n1 := (by omega)) (hb := (by first | omega | (simp; omega))) (hst := hst)) ?_)
   rintro _ w82 ⟨r81, rfl, hcall⟩
   refine ⟨_, rfl, ?_⟩
   have hst : St w0 w82 [.blk g31 29 #[r81], rowT 5 u8E r81 (((((done ++ (put (((((l[i]'(by first | omega | (simp; omega) | (simp; done))).From) / (widthA k)) - (lastW (widthA k) l i)) - 1))) ++ (put (((l[i]'(by first | omega | (simp; omega) | (simp; done))).Count) - 1))) ++ (put (zig ((l[i]'(by first | omega | (simp; omega) | (simp; done))).Min)))) ++ (put ((l[i]'(by omega)).Max - (l[i]'(by omega)).Min))) ++ (put (zig ((l[i]'(by first | omega | (simp; omega) | (simp; done))).Sum)))), .blk g43 45 (aggA (l[i]'(by first | omega | (simp; omega) | (simp; done))))] := hcall
   refine s_nil (then_n (cE_seq (cE_region rfl (s_cons (op_move (.func (.func 38) #[] #[(.pointer (some ⟨g31, 0, none⟩))]) uw67_7 (s_cons (op_fieldAddr (s := 0) Tryd.underlying45 rfl rfl Tryd.sizeOf2 uw67_10 (s_cons (op_load1 (u := (iV ((l[i]'(by first | omega | (simp; omega) | (simp; done))).First))) Tryd.isAgg2 rfl ((hst.cell 2 rfl).drop 5) (s_cons (op_conv (k := .i64) (a := (l[i]'(by first | omega | (simp; omega) | (simp; done))).First) ((l[i]'(by first | omega | (simp; omega) | (simp; done))).First % 18446744073709551616) Tryd.underlying54 (by rw [Tryd.underlying2]; rfl) rfl (IntKind.wrap_u64 _) ?_)))))))))))
   refine s_cons (op_fieldAddr (s := 0) Tryd.underlying45 rfl rfl Tryd.sizeOf2 uw67_10 (s_cons (op_load1 (u := (iV ((l[i]'(by first | omega | (simp; omega) | (simp; done))).Min))) Tryd.isAgg2 rfl ((hst.cell 2 rfl).drop 3) (s_cons (op_conv (k := .i64) (a := (l[i]'(by first | omega | (simp; omega) | (simp; done))).Min) ((l[i]'(by first | omega | (simp; omega) | (simp; done))).Min % 18446744073709551616) Tryd.underlying54 (by rw [Tryd.underlying2]; rfl) rfl (IntKind.wrap_u64 _) ?_)))))
   refine s_cons (op_sub (k := .u64) (a := ((l[i]'(by first | omega | (simp; omega) | (simp; done))).First % 18446744073709551616)) (b := ((l[i]'(by first | omega | (simp; omega) | (simp; done))).Min % 18446744073709551616)) ((l[i]'(by omega)).First - (l[i]'(by omega)).Min) rfl rfl (u64_sub (by simp only [i64R]; omega) (by simp only [i64R]; omega) (by omega)) (s_cons (op_callv (cs := [(.pointer (some ⟨g31, 0, none⟩))]) Tryd.call38 rfl (evs_cons (v := (.int .u64 ((l[i]'(by omega)).First - (l[i]'(by omega)).Min))) rfl evs_nil) (c_kPut1 (n := ((l[i]'(by omega)).First - (l[i]'(by omega)).Min)) (g_pb := g31) (v_buf := r81) (buf := (((((done ++ (put (((((l[i]'(by first | omega | (simp; omega) | (simp; done))).From) / (widthA k)) - (lastW (widthA k) l i)) - 1))) ++ (put (((l[i]'(by first | omega | (simp; omega) | (simp; done))).Count) - 1))) ++ (put (zig ((l[i]'(by first | omega | (simp; omega) | (simp; done))).Min)))) ++ (put ((l[i]'(by omega)).Max - (l[i]'(by omega)).Min))) ++ (put (zig ((l[i]'(by first | omega | (simp; omega) | (simp; done))).Sum))))) (n0 := (by omega)) (n1 := (by omega)) (hb := (by first | omega | (simp; omega))) (hst := hst)) ?_)))
   rintro _ w84 ⟨r83, rfl, hcall⟩
   refine ⟨_, rfl, ?_⟩
   have hst : St w0 w84 [.blk g31 29 #[r83], rowT 5 u8E r83 ((((((done ++ (put (((((l[i]'(by first | omega | (simp; omega) | (simp; done))).From) / (widthA k)) - (lastW (widthA k) l i)) - 1))) ++ (put (((l[i]'(by first | omega | (simp; omega) | (simp; done))).Count) - 1))) ++ (put (zig ((l[i]'(by first | omega | (simp; omega) | (simp; done))).Min)))) ++ (put ((l[i]'(by omega)).Max - (l[i]'(by omega)).Min))) ++ (put (zig ((l[i]'(by first | omega | (simp; omega) | (simp; done))).Sum)))) ++ (put ((l[i]'(by omega)).First - (l[i]'(by omega)).Min))), .blk g43 45 (aggA (l[i]'(by first | omega | (simp; omega) | (simp; done))))] := hcall
   refine s_nil (then_n (cE_region rfl (s_cons (op_move (.func (.func 38) #[] #[(.pointer (some ⟨g31, 0, none⟩))]) uw67_7 (s_cons (op_fieldAddr (s := 0) Tryd.underlying45 rfl rfl Tryd.sizeOf2 uw67_10 (s_cons (op_load1 (u := (iV ((l[i]'(by first | omega | (simp; omega) | (simp; done))).Last))) Tryd.isAgg2 rfl ((hst.cell 2 rfl).drop 6) (s_cons (op_conv (k := .i64) (a := (l[i]'(by first | omega | (simp; omega) | (simp; done))).Last) ((l[i]'(by first | omega | (simp; omega) | (simp; done))).Last % 18446744073709551616) Tryd.underlying54 (by rw [Tryd.underlying2]; rfl) rfl (IntKind.wrap_u64 _) ?_))))))))))
   refine s_cons (op_fieldAddr (s := 0) Tryd.underlying45 rfl rfl Tryd.sizeOf2 uw67_10 (s_cons (op_load1 (u := (iV ((l[i]'(by first | omega | (simp; omega) | (simp; done))).Min))) Tryd.isAgg2 rfl ((hst.cell 2 rfl).drop 3) (s_cons (op_conv (k := .i64) (a := (l[i]'(by first | omega | (simp; omega) | (simp; done))).Min) ((l[i]'(by first | omega | (simp; omega) | (simp; done))).Min % 18446744073709551616) Tryd.underlying54 (by rw [Tryd.underlying2]; rfl) rfl (IntKind.wrap_u64 _) ?_)))))
   refine s_cons (op_sub (k := .u64) (a := ((l[i]'(by first | omega | (simp; omega) | (simp; done))).Last % 18446744073709551616)) (b := ((l[i]'(by first | omega | (simp; omega) | (simp; done))).Min % 18446744073709551616)) ((l[i]'(by omega)).Last - (l[i]'(by omega)).Min) rfl rfl (u64_sub (by simp only [i64R]; omega) (by simp only [i64R]; omega) (by omega)) (s_cons (op_callv (cs := [(.pointer (some ⟨g31, 0, none⟩))]) Tryd.call38 rfl (evs_cons (v := (.int .u64 ((l[i]'(by omega)).Last - (l[i]'(by omega)).Min))) rfl evs_nil) (c_kPut1 (n := ((l[i]'(by omega)).Last - (l[i]'(by omega)).Min)) (g_pb := g31) (v_buf := r83) (buf := ((((((done ++ (put (((((l[i]'(by first | omega | (simp; omega) | (simp; done))).From) / (widthA k)) - (lastW (widthA k) l i)) - 1))) ++ (put (((l[i]'(by first | omega | (simp; omega) | (simp; done))).Count) - 1))) ++ (put (zig ((l[i]'(by first | omega | (simp; omega) | (simp; done))).Min)))) ++ (put ((l[i]'(by omega)).Max - (l[i]'(by omega)).Min))) ++ (put (zig ((l[i]'(by first | omega | (simp; omega) | (simp; done))).Sum)))) ++ (put ((l[i]'(by omega)).First - (l[i]'(by omega)).Min)))) (n0 := (by omega)) (n1 := (by omega)) (hb := (by first | omega | (simp; omega))) (hst := hst)) ?_)))
   rintro _ w86 ⟨r85, rfl, hcall⟩
   refine ⟨_, rfl, ?_⟩
   have hst : St w0 w86 [.blk g31 29 #[r85], rowT 5 u8E r85 (((((((done ++ (put (((((l[i]'(by first | omega | (simp; omega) | (simp; done))).From) / (widthA k)) - (lastW (widthA k) l i)) - 1))) ++ (put (((l[i]'(by first | omega | (simp; omega) | (simp; done))).Count) - 1))) ++ (put (zig ((l[i]'(by first | omega | (simp; omega) | (simp; done))).Min)))) ++ (put ((l[i]'(by omega)).Max - (l[i]'(by omega)).Min))) ++ (put (zig ((l[i]'(by first | omega | (simp; omega) | (simp; done))).Sum)))) ++ (put ((l[i]'(by omega)).First - (l[i]'(by omega)).Min))) ++ (put ((l[i]'(by omega)).Last - (l[i]'(by omega)).Min))), .blk g43 45 (aggA (l[i]'(by first | omega | (simp; omega) | (simp; done))))] := hcall
   refine s_nil (block_n (then_n (cE_region rfl (s_cons (op_add (k := .i64) (a := (i : Int)) (b := 1) ((i : Int) + 1) uw67_28 rfl (xi64 (by omega) (by omega)) (s_cons (op_move (iV ((i : Int) + 1)) rfl (s_nil (then_n ?_)))))))))
   exact ⟨_, ⟨r85, (((((((done ++ (put (((((l[i]'(by first | omega | (simp; omega) | (simp; done))).From) / (widthA k)) - (lastW (widthA k) l i)) - 1))) ++ (put (((l[i]'(by first | omega | (simp; omega) | (simp; done))).Count) - 1))) ++ (put (zig ((l[i]'(by first | omega | (simp; omega) | (simp; done))).Min)))) ++ (put ((l[i]'(by omega)).Max - (l[i]'(by omega)).Min))) ++ (put (zig ((l[i]'(by first | omega | (simp; omega) | (simp; done))).Sum)))) ++ (put ((l[i]'(by omega)).First - (l[i]'(by omega)).Min))) ++ (put ((l[i]'(by omega)).Last - (l[i]'(by omega)).Min))), (i + 1), rfl, uw67_0, uw67_1, uw67_4, uw67_5, uw67_6, uw67_7, uw67_26, uw67_27, (congrArg iV (show ((i : Int) + 1) = _ from by omega)), (congrArg iV (show (((l[i]'(by first | omega | (simp; omega) | (simp; done))).From) / (widthA k)) = _ from by first | rfl | exact (lastW_succ (by omega)).symm)), (hst.sub (.cons_cons _ (.cons_cons _ (.cons _ .slnil)))), (by omega), (by first | omega | (simp; omega)), (by first | rfl | (rw [hp, stepA2_one (by omega) (by assumption)]; simp; done) | (rw [hp, stepA2_many (by omega) (by assumption)]; simp; done))⟩, (by simp only [id]; omega)⟩
  have c87 : ¬ ((i : Int) < (l.length : Int)) := of_decide_eq_false b38
  refine cE_cond false (congrArg Value.bool b38) (fun h => by cases h) (fun _ => ?_)
  refine cE_exit (then_x (then_x (block_hit (then_n (cE_seq (cE_region rfl (s_cons (op_load1 (u := v) Tryd.isAgg29 q34_6 (hst.cell 0 rfl) (s_cons (op_assign v rfl (s_cons (op_assign (iV 0) rfl (s_nil (then_n (cE_ret (scope_r (post_r _ (res2 (v := v) rfl (x := (iV 0)) rfl) ?_)))))))))))))))))
  have e88 : done = (encA k l).1 := by first | rw [encA_no (Or.inl (by assumption))] | rw [encA_no (Or.inr (by omega))] | (rw [encA_yes hok]; done) | (rw [encA_yes hok]; show _ = putA k l; rw [hp, stepA2_end (by omega), List.append_nil])
  replace hst : St w0 w37 [.blk g31 29 #[v], rowT 5 u8E v ((encA k l).1)] := by rw [congrArg (fun l => rowT 5 u8E v l) e88] at hst; exact hst
  exact ⟨v, (retv2 rfl (congrArg iV (show 0 = (encA k l).2 from by first | rw [encA_no (Or.inl (by assumption))] | rw [encA_no (Or.inr (by omega))] | (rw [encA_yes hok]; done) | (rw [encA_yes hok]; show _ = putA k l; rw [hp, stepA2_end (by omega), List.append_nil])))), hst.sub (.cons _ (.cons_cons _ .slnil))⟩
 refine s_no 16 rfl (congrArg Value.bool (congrArg (! ·) b24)) (s_no 16 rfl (congrArg Value.bool (congrArg (! ·) b24)) (s_no 16 rfl (congrArg Value.bool (congrArg (! ·) b24)) (s_cons (op_pick_t (.bool true) (congrArg Value.bool (congrArg (! ·) b24)) rfl (s_nil (then_n (cE_cond true rfl (fun _ => ?_) (fun h => by cases h))))))))
 refine cE_seq (cE_region rfl (s_cons (op_assign nS rfl (s_cons (op_assign (iV 1) rfl (s_nil (then_n (cE_ret (then_r (scope_r (post_r _ (res2 (v := nS) rfl (x := (iV 1)) rfl) ?_)))))))))))
 replace hst : St w0 w23 [rowT 5 u8E nS ([])] := hst.nilRow 5 u8E
 have e89 : [] = (encA k l).1 := by first | rw [encA_no (Or.inl (by assumption))] | rw [encA_no (Or.inr (by omega))] | (rw [encA_yes hok]; done) | (rw [encA_yes hok]; show _ = putA k l; rw [hp, stepA2_end (by omega), List.append_nil])
 replace hst : St w0 w23 [rowT 5 u8E nS ((encA k l).1)] := by rw [congrArg (fun l => rowT 5 u8E nS l) e89] at hst; exact hst
 exact ⟨nS, (retv2 rfl (congrArg iV (show 1 = (encA k l).2 from by first | rw [encA_no (Or.inl (by assumption))] | rw [encA_no (Or.inr (by omega))] | (rw [encA_yes hok]; done) | (rw [encA_yes hok]; show _ = putA k l; rw [hp, stepA2_end (by omega), List.append_nil])))), hst.sub (.cons_cons _ .slnil)⟩

end Go.Proofs.YtgibfidebdgffaaDoor
