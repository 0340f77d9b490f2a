/- ask.find$1, api.Seg], ask.find, ask.picked$1, api.Info], api.Info] -/
import Derived.Test.YtldfnkhccaglmaaXLA
import Derived.Test.YtldfnkhccaglmaaXT
namespace Go.Proofs.Ytldfnkhccaglmaa
open Go.RowKit

set_option maxRecDepth 8000 in
theorem c_isid {w0 w : World} {L : List Item} (s : Seg) (h_s : SegIn w0 s) (g_x : Nat) (x0 : Int) (hst : St w0 w (.blk g_x 3 #[(iV x0)] :: L)) :
  Calls Try.prog 69 #[(.agg #[(iV s.d.Id), (iV s.d.Tier), (iV s.d.From), (iV s.d.To), s.sv.1, s.av.1]), (.pointer (some ⟨g_x, 0, none⟩))] w fun e w' => e = .returned (.bool (decide (s.d.Id = x0))) ∧ St w0 w' (.blk g_x 3 #[(iV x0)] :: L) := by
 refine calls_E (n := 8) (ts := [3]) Try.func69 rfl rfl rfl (by simp) (cE_seq (cE_region rfl (s_cons (op_box (v := (.agg #[(iV s.d.Id), (iV s.d.Tier), (iV s.d.From), (iV s.d.To), s.sv.1, s.av.1])) (cs := #[(iV s.d.Id), (iV s.d.Tier), (iV s.d.From), (iV s.d.To), s.sv.1, s.av.1]) hst rfl rfl (fun g1 w2 hst _ => ?_)))))
 refine s_cons (op_assign (.bool false) rfl (s_nil (then_n (cE_seq (cE_region rfl (s_cons (op_fieldAddr (s := 0) Try.underlying76 rfl rfl Try.sizeOf3 rfl (s_cons (op_load1 (u := (iV s.d.Id)) Try.isAgg3 rfl (hst.cell 0 rfl) (s_cons (op_load1 (u := (iV x0)) Try.isAgg3 rfl (hst.cell 1 rfl) (s_cons (op_eql (k := .i64) (a := s.d.Id) (b := x0) rfl rfl (s_cons (op_assign (.bool (decide (s.d.Id = x0))) rfl ?_)))))))))))))))
 refine s_nil (then_n (cE_ret (post_r _ (res1 (v := (.bool (decide (s.d.Id = x0)))) rfl) ?_)))
 exact ⟨rfl, hst.sub (.cons _ (.cons_cons _ (List.Sublist.refl _)))⟩

set_option maxRecDepth 8000 in
theorem c_indexF {w0 w : World} {L : List Item} (v_l : Value) (l : List Seg) (h_l : Sl w0 segE v_l l) (g_x : Nat) (x0 : Int) (hsg : SegsIn w0 l) (hst : St w0 w (.blk g_x 3 #[(iV x0)] :: L)) :
  Calls Try.prog 68 #[v_l, (.func (.func 69) #[] #[(.pointer (some ⟨g_x, 0, none⟩))])] w fun e w' => e = .returned (iV (idxG (fun (y : Seg) => decide (y.d.Id = x0)) l)) ∧ St w0 w' (.blk g_x 3 #[(iV x0)] :: L) := by
 refine calls_E (n := 19) (ts := [4]) Try.func68 rfl rfl rfl (by simp) (cE_seq (cE_region rfl (s_cons (op_assign (iV 0) rfl (s_nil (then_n (cE_seq (cE_seq (cE_region rfl (s_cons (op_move v_l rfl (s_cons (op_len (E := segE) (xs := l) Try.underlying44 rfl h_l (s_cons (op_move (iV 0) rfl (s_nil (then_n (cE_block (cE_loop (fun (m : Nat) (ρ : Env) (w : World) => ∃ (i : Nat), m = l.length - i ∧ ρ 0 = v_l ∧ ρ 1 = (.func (.func 69) #[] #[(.pointer (some ⟨g_x, 0, none⟩))]) ∧ ρ 7 = (iV (l.length : Int)) ∧ ρ 8 = (iV (i : Int)) ∧ St w0 w (.blk g_x 3 #[(iV x0)] :: L) ∧ (i ≤ l.length) ∧ (∀ (j : Nat) (h : j < l.length), j < i → (fun (y : Seg) => decide (y.d.Id = x0)) (l[j]'h) = false)) id _ ⟨0, rfl, rfl, rfl, rfl, (congrArg iV (show 0 = _ from by omega)), hst, (by omega), (by exact idxG_none (p := fun (y : Seg) => decide (y.d.Id = x0)))⟩ ?_)))))))))))))))))))
 rintro m4 ρ5 w6 ⟨i, hm4, q3_0, q3_1, q3_7, q3_8, hst, hi, hN⟩
 have hlen := h_l.len
 refine cE_seq (cE_region rfl (s_cons (op_lss (k := .i64) (a := (i : Int)) (b := (l.length : Int)) q3_8 q3_7 (s_nil (then_n (cE_seq ?_))))))
 rcases Bool.eq_false_or_eq_true (decide ((i : Int) < (l.length : Int))) with b7 | b7
 ·have c8 := of_decide_eq_true b7
  refine cE_cond true (congrArg Value.bool b7) (fun _ => ?_) (fun h => by cases h)
  refine cE_skip (then_n (cE_seq (cE_block (cE_seq (cE_region rfl (s_cons (op_move (iV (i : Int)) q3_8 (s_cons (op_assign (iV (i : Int)) rfl (s_nil (then_n (cE_seq (cE_region rfl (s_cons (op_move (.func (.func 69) #[] #[(.pointer (some ⟨g_x, 0, none⟩))]) q3_1 (s_cons (op_move v_l q3_0 (s_cons (op_move (iV (i : Int)) rfl (s_cons (op_indexAddrN (E := segE) (xs := l) i Try.underlying44 Try.sizeOf76 rfl h_l rfl (by omega) (by omega) (fun a9 o10 p11 => ?_))))))))))))))))))))))
  refine s_cons (op_loadN (cs := [(iV ((l[i]'(by omega)).d.Id)), (iV ((l[i]'(by omega)).d.Tier)), (iV ((l[i]'(by omega)).d.From)), (iV ((l[i]'(by omega)).d.To)), (l[i]'(by omega)).sv.1, (l[i]'(by omega)).av.1]) Try.isAgg76 Try.sizeOf76 rfl (Pt.of (p11.below hst.below) rfl) rfl (s_cons (op_callv (cs := [(.pointer (some ⟨g_x, 0, none⟩))]) Try.call69 rfl (evs_cons (v := (.agg #[(iV ((l[i]'(by omega)).d.Id)), (iV ((l[i]'(by omega)).d.Tier)), (iV ((l[i]'(by omega)).d.From)), (iV ((l[i]'(by omega)).d.To)), (l[i]'(by omega)).sv.1, (l[i]'(by omega)).av.1])) rfl evs_nil) (c_isid (s := (l[i]'(by omega))) (h_s := ⟨(hsg (l[i]'(by omega)) (List.getElem_mem _)).1, (hsg (l[i]'(by omega)) (List.getElem_mem _)).2⟩) (g_x := g_x) (x0 := x0) (hst := hst)) ?_)))
  rintro _ w12 ⟨rfl, hcall⟩
  refine ⟨_, rfl, ?_⟩
  have hst : St w0 w12 (.blk g_x 3 #[(iV x0)] :: L) := hcall
  refine s_nil (then_n ?_)
  rcases Bool.eq_false_or_eq_true (decide ((l[i]'(by omega)).d.Id = x0)) with b13 | b13
  ·have c14 := of_decide_eq_true b13
   refine cE_cond true (congrArg Value.bool b13) (fun _ => ?_) (fun h => by cases h)
   refine cE_seq (cE_region rfl (s_cons (op_move (iV (i : Int)) rfl (s_cons (op_assign (iV (i : Int)) rfl (s_nil (then_n (cE_ret (block_r (then_r (then_r (block_r (then_r (post_r _ (res1 (v := (iV (i : Int))) rfl) ?_))))))))))))))
   exact ⟨(retv1 (congrArg iV (show (i : Int) = (idxG (fun (y : Seg) => decide (y.d.Id = x0)) l) from by exact (idxG_at (p := fun (y : Seg) => decide (y.d.Id = x0)) hN (by omega) (by assumption)).symm))), hst.sub (.cons_cons _ (List.Sublist.refl _))⟩
  have c15 := of_decide_eq_false b13
  refine cE_cond false (congrArg Value.bool b13) (fun h => by cases h) (fun _ => ?_)
  refine cE_skip (block_n (then_n (cE_region rfl (s_cons (op_add (k := .i64) (a := (i : Int)) (b := 1) ((i : Int) + 1) q3_8 rfl (xi64 (by omega) (by omega)) (s_cons (op_move (iV ((i : Int) + 1)) rfl (s_nil (then_n ?_)))))))))
  exact ⟨_, ⟨(i + 1), rfl, q3_0, q3_1, q3_7, (congrArg iV (show ((i : Int) + 1) = _ from by omega)), hst, (by omega), (by exact idxG_next (p := fun (y : Seg) => decide (y.d.Id = x0)) hN (by omega) (by assumption))⟩, (by simp only [id]; omega)⟩
 have c16 := of_decide_eq_false b7
 refine cE_cond false (congrArg Value.bool b7) (fun h => by cases h) (fun _ => ?_)
 refine cE_exit (then_x (then_x (block_hit (then_n (cE_seq (cE_region rfl (s_cons (op_assign (iV (-1)) rfl (s_nil (then_n (cE_ret (post_r _ (res1 (v := (iV (-1))) rfl) ?_))))))))))))
 exact ⟨(retv1 (congrArg iV (show (-1) = (idxG (fun (y : Seg) => decide (y.d.Id = x0)) l) from by exact (idxG_end (p := fun (y : Seg) => decide (y.d.Id = x0)) hN (by omega)).symm))), hst.sub (.cons_cons _ (List.Sublist.refl _))⟩

set_option maxRecDepth 8000 in
theorem c_find (w0 : World) (v_l : Value) (l : List Seg) (h_l : Sl w0 segE v_l l) (id : Int) (hsg : SegsIn w0 l) (hex : ∃ s ∈ l, s.d.Id = id) :
  Calls Try.prog 55 #[v_l, (iV id)] w0 fun e w' => e = .returned (.agg #[(iV ((findG l id).d.Id)), (iV ((findG l id).d.Tier)), (iV ((findG l id).d.From)), (iV ((findG l id).d.To)), (findG l id).sv.1, (findG l id).av.1]) ∧ St w0 w' [] := by
 obtain ⟨s0, hs0, he0⟩ := hex
 obtain ⟨hk, h0, _⟩ := idxG_has (p := fun (y : Seg) => decide (y.d.Id = id)) hs0 (decide_eq_true he0)
 refine calls_G (n := 11) (rs := [.cell 4 76]) Try.func55 rfl rfl rfl (by simp) ?_
 have hst := St.start w0
 refine cE_seq (cE_region rfl (s_cons (op_box (v := (iV id)) (cs := #[(iV id)]) hst rfl rfl (fun g17 w18 hst _ => ?_))))
 refine s_cons (op_alloc (cs := #[(iV 0), (iV 0), (iV 0), (iV 0), nS, nS]) hst Try.zeroValue76 rfl (fun g19 w20 hst _ => ?_))
 refine s_nil (then_n (cE_seq (cE_region rfl (s_cons (op_move v_l rfl (s_cons (op_move v_l rfl (s_cons (op_makeFunc (evs_cons (v := (.pointer (some ⟨g17, 0, none⟩))) rfl evs_nil) ?_)))))))))
 replace hst := hst.front 1 rfl
 refine s_cons (op_call Try.call68 (evs_cons (v := v_l) rfl (evs_cons (v := (.func (.func 69) #[] #[(.pointer (some ⟨g17, 0, none⟩))])) rfl evs_nil)) (c_indexF (v_l := v_l) (l := l) (h_l := h_l) (g_x := g17) (x0 := id) (hsg := hsg) (hst := hst)) ?_)
 rintro _ w21 ⟨rfl, hcall⟩
 refine ⟨_, rfl, ?_⟩
 have hst : St w0 w21 [.blk g17 3 #[(iV id)], .blk g19 76 #[(iV 0), (iV 0), (iV 0), (iV 0), nS, nS]] := hcall
 refine s_cons (op_indexAddrD (E := segE) (xs := l) (Int.toNat (idxG (fun (y : Seg) => decide (y.d.Id = id)) l)) Try.underlying44 Try.sizeOf76 rfl h_l rfl (by omega) (by omega) (fun a22 o23 p24 => ?_))
 refine s_cons (op_loadN (cs := [(iV ((gd l (Int.toNat (idxG (fun (y : Seg) => decide (y.d.Id = id)) l))).d.Id)), (iV ((gd l (Int.toNat (idxG (fun (y : Seg) => decide (y.d.Id = id)) l))).d.Tier)), (iV ((gd l (Int.toNat (idxG (fun (y : Seg) => decide (y.d.Id = id)) l))).d.From)), (iV ((gd l (Int.toNat (idxG (fun (y : Seg) => decide (y.d.Id = id)) l))).d.To)), (gd l (Int.toNat (idxG (fun (y : Seg) => decide (y.d.Id = id)) l))).sv.1, (gd l (Int.toNat (idxG (fun (y : Seg) => decide (y.d.Id = id)) l))).av.1]) Try.isAgg76 Try.sizeOf76 rfl (Pt.of (p24.below hst.below) rfl) rfl ?_)
 refine s_cons0 (op_storeAll hst 1 rfl Try.sizeOf76 rfl rfl rfl rfl (oneL_all (l := [(iV ((gd l (Int.toNat (idxG (fun (y : Seg) => decide (y.d.Id = id)) l))).d.Id)), (iV ((gd l (Int.toNat (idxG (fun (y : Seg) => decide (y.d.Id = id)) l))).d.Tier)), (iV ((gd l (Int.toNat (idxG (fun (y : Seg) => decide (y.d.Id = id)) l))).d.From)), (iV ((gd l (Int.toNat (idxG (fun (y : Seg) => decide (y.d.Id = id)) l))).d.To)), (gd l (Int.toNat (idxG (fun (y : Seg) => decide (y.d.Id = id)) l))).sv.1, (gd l (Int.toNat (idxG (fun (y : Seg) => decide (y.d.Id = id)) l))).av.1]) ⟨rfl, rfl, rfl, rfl, (gd l (Int.toNat (idxG (fun (y : Seg) => decide (y.d.Id = id)) l))).sv.2, (gd l (Int.toNat (idxG (fun (y : Seg) => decide (y.d.Id = id)) l))).av.2, trivial⟩) (fun w25 hst => ?_))
 refine s_nil (then_n (cE_ret (postG_r _ (rvN (cs := [(iV ((gd l (Int.toNat (idxG (fun (y : Seg) => decide (y.d.Id = id)) l))).d.Id)), (iV ((gd l (Int.toNat (idxG (fun (y : Seg) => decide (y.d.Id = id)) l))).d.Tier)), (iV ((gd l (Int.toNat (idxG (fun (y : Seg) => decide (y.d.Id = id)) l))).d.From)), (iV ((gd l (Int.toNat (idxG (fun (y : Seg) => decide (y.d.Id = id)) l))).d.To)), (gd l (Int.toNat (idxG (fun (y : Seg) => decide (y.d.Id = id)) l))).sv.1, (gd l (Int.toNat (idxG (fun (y : Seg) => decide (y.d.Id = id)) l))).av.1]) Try.isAgg76 Try.sizeOf76 rfl (Pt.of (hst.cell 1 rfl) rfl) rfl rvnil) ?_)))
 exact ⟨(retv1 (arr6 (congrArg iV (show (gd l (Int.toNat (idxG (fun (y : Seg) => decide (y.d.Id = id)) l))).d.Id = (findG l id).d.Id from by rfl)) (congrArg iV (show (gd l (Int.toNat (idxG (fun (y : Seg) => decide (y.d.Id = id)) l))).d.Tier = (findG l id).d.Tier from by rfl)) (congrArg iV (show (gd l (Int.toNat (idxG (fun (y : Seg) => decide (y.d.Id = id)) l))).d.From = (findG l id).d.From from by rfl)) (congrArg iV (show (gd l (Int.toNat (idxG (fun (y : Seg) => decide (y.d.Id = id)) l))).d.To = (findG l id).d.To from by rfl)) (show (gd l (Int.toNat (idxG (fun (y : Seg) => decide (y.d.Id = id)) l))).sv.1 = (findG l id).sv.1 from by rfl) (show (gd l (Int.toNat (idxG (fun (y : Seg) => decide (y.d.Id = id)) l))).av.1 = (findG l id).av.1 from by rfl))), hst.bare⟩

set_option maxRecDepth 8000 in
theorem c_sameid {w0 w : World} {L : List Item} (i : Info) (g_x : Nat) (x0 : Int) (x1 : Int) (x2 : Int) (x3 : Int) (v_x4 : Value) (x4 : List Sample) (h_x4 : Sl w0 sampE v_x4 x4) (v_x5 : Value) (x5 : List Agg) (h_x5 : Sl w0 aggE v_x5 x5) (hst : St w0 w (.blk g_x 76 #[(iV x0), (iV x1), (iV x2), (iV x3), v_x4, v_x5] :: L)) :
  Calls Try.prog 53 #[(.agg #[(iV i.Id), (iV i.Tier), (iV i.From), (iV i.To), (.int .u32 i.Sum)]), (.pointer (some ⟨g_x, 0, none⟩))] w fun e w' => e = .returned (.bool (decide (i.Id = x0))) ∧ St w0 w' (.blk g_x 76 #[(iV x0), (iV x1), (iV x2), (iV x3), v_x4, v_x5] :: L) := by
 refine calls_E (n := 9) (ts := [3]) Try.func53 rfl rfl rfl (by simp) (cE_seq (cE_region rfl (s_cons (op_box (v := (.agg #[(iV i.Id), (iV i.Tier), (iV i.From), (iV i.To), (.int .u32 i.Sum)])) (cs := #[(iV i.Id), (iV i.Tier), (iV i.From), (iV i.To), (.int .u32 i.Sum)]) hst rfl rfl (fun g26 w27 hst _ => ?_)))))
 refine s_cons (op_assign (.bool false) rfl (s_nil (then_n (cE_seq (cE_region rfl (s_cons (op_fieldAddr (s := 0) Try.underlying96 rfl rfl Try.sizeOf3 rfl (s_cons (op_load1 (u := (iV i.Id)) Try.isAgg3 rfl (hst.cell 0 rfl) (s_cons (op_fieldAddr (s := 0) Try.underlying76 rfl rfl Try.sizeOf3 rfl (s_cons (op_load1 (u := (iV x0)) Try.isAgg3 rfl (hst.cell 1 rfl) (s_cons (op_eql (k := .i64) (a := i.Id) (b := x0) rfl rfl ?_)))))))))))))))
 refine s_cons (op_assign (.bool (decide (i.Id = x0))) rfl (s_nil (then_n (cE_ret (post_r _ (res1 (v := (.bool (decide (i.Id = x0)))) rfl) ?_)))))
 exact ⟨rfl, hst.sub (.cons _ (.cons_cons _ (List.Sublist.refl _)))⟩

set_option maxRecDepth 8000 in
theorem c_indexC {w0 w : World} {L : List Item} (v_l : Value) (l : List Info) (g_x : Nat) (x0 : Int) (x1 : Int) (x2 : Int) (x3 : Int) (v_x4 : Value) (x4 : List Sample) (h_x4 : Sl w0 sampE v_x4 x4) (v_x5 : Value) (x5 : List Agg) (h_x5 : Sl w0 aggE v_x5 x5) (hst : St w0 w (rowT 96 infoE v_l l :: .blk g_x 76 #[(iV x0), (iV x1), (iV x2), (iV x3), v_x4, v_x5] :: L)) :
  Calls Try.prog 61 #[v_l, (.func (.func 53) #[] #[(.pointer (some ⟨g_x, 0, none⟩))])] w fun e w' => e = .returned (iV (idxI (fun (y : Info) => decide (y.Id = x0)) l)) ∧ St w0 w' (rowT 96 infoE v_l l :: .blk g_x 76 #[(iV x0), (iV x1), (iV x2), (iV x3), v_x4, v_x5] :: L) := by
 refine calls_E (n := 19) (ts := [4]) Try.func61 rfl rfl rfl (by simp) (cE_seq (cE_region rfl (s_cons (op_assign (iV 0) rfl (s_nil (then_n (cE_seq (cE_seq (cE_region rfl (s_cons (op_move v_l rfl (s_cons (op_len (E := infoE) (xs := l) Try.underlying92 rfl (hst.sl 0 rfl) (s_cons (op_move (iV 0) rfl (s_nil (then_n (cE_block (cE_loop (fun (m : Nat) (ρ : Env) (w : World) => ∃ (i : Nat), m = l.length - i ∧ ρ 0 = v_l ∧ ρ 1 = (.func (.func 53) #[] #[(.pointer (some ⟨g_x, 0, none⟩))]) ∧ ρ 7 = (iV (l.length : Int)) ∧ ρ 8 = (iV (i : Int)) ∧ St w0 w (rowT 96 infoE v_l l :: .blk g_x 76 #[(iV x0), (iV x1), (iV x2), (iV x3), v_x4, v_x5] :: L) ∧ (i ≤ l.length) ∧ (∀ (j : Nat) (h : j < l.length), j < i → (fun (y : Info) => decide (y.Id = x0)) (l[j]'h) = false)) id _ ⟨0, rfl, rfl, rfl, rfl, (congrArg iV (show 0 = _ from by omega)), hst, (by omega), (by exact idx_none (p := fun (y : Info) => decide (y.Id = x0)))⟩ ?_)))))))))))))))))))
 rintro m29 ρ30 w31 ⟨i, hm29, q28_0, q28_1, q28_7, q28_8, hst, hi, hN⟩
 have hlen := (hst.sl 0 rfl).len
 refine cE_seq (cE_region rfl (s_cons (op_lss (k := .i64) (a := (i : Int)) (b := (l.length : Int)) q28_8 q28_7 (s_nil (then_n (cE_seq ?_))))))
 rcases Bool.eq_false_or_eq_true (decide ((i : Int) < (l.length : Int))) with b32 | b32
 ·have c33 := of_decide_eq_true b32
  refine cE_cond true (congrArg Value.bool b32) (fun _ => ?_) (fun h => by cases h)
  refine cE_skip (then_n (cE_seq (cE_block (cE_seq (cE_region rfl (s_cons (op_move (iV (i : Int)) q28_8 (s_cons (op_assign (iV (i : Int)) rfl (s_nil (then_n (cE_seq (cE_region rfl (s_cons (op_move (.func (.func 53) #[] #[(.pointer (some ⟨g_x, 0, none⟩))]) q28_1 (s_cons (op_move v_l q28_0 (s_cons (op_move (iV (i : Int)) rfl (s_cons (op_indexAddrN (E := infoE) (xs := l) i Try.underlying92 Try.sizeOf96 rfl (hst.sl 0 rfl) rfl (by omega) (by omega) (fun a34 o35 p36 => ?_))))))))))))))))))))))
  refine s_cons (op_loadN (cs := [(iV ((l[i]'(by omega)).Id)), (iV ((l[i]'(by omega)).Tier)), (iV ((l[i]'(by omega)).From)), (iV ((l[i]'(by omega)).To)), (.int .u32 ((l[i]'(by omega)).Sum))]) Try.isAgg96 Try.sizeOf96 rfl (Pt.of p36 rfl) rfl ?_)
  replace hst := hst.front 1 rfl
  refine s_cons (op_callv (cs := [(.pointer (some ⟨g_x, 0, none⟩))]) Try.call53 rfl (evs_cons (v := (.agg #[(iV ((l[i]'(by omega)).Id)), (iV ((l[i]'(by omega)).Tier)), (iV ((l[i]'(by omega)).From)), (iV ((l[i]'(by omega)).To)), (.int .u32 ((l[i]'(by omega)).Sum))])) rfl evs_nil) (c_sameid (i := (l[i]'(by omega))) (g_x := g_x) (x0 := x0) (x1 := x1) (x2 := x2) (x3 := x3) (v_x4 := v_x4) (x4 := x4) (h_x4 := h_x4) (v_x5 := v_x5) (x5 := x5) (h_x5 := h_x5) (hst := hst)) ?_)
  rintro _ w37 ⟨rfl, hcall⟩
  refine ⟨_, rfl, ?_⟩
  have hst : St w0 w37 (.blk g_x 76 #[(iV x0), (iV x1), (iV x2), (iV x3), v_x4, v_x5] :: rowT 96 infoE v_l l :: L) := hcall
  refine s_nil (then_n ?_)
  rcases Bool.eq_false_or_eq_true (decide ((l[i]'(by omega)).Id = x0)) with b38 | b38
  ·have c39 := of_decide_eq_true b38
   refine cE_cond true (congrArg Value.bool b38) (fun _ => ?_) (fun h => by cases h)
   refine cE_seq (cE_region rfl (s_cons (op_move (iV (i : Int)) rfl (s_cons (op_assign (iV (i : Int)) rfl (s_nil (then_n (cE_ret (block_r (then_r (then_r (block_r (then_r (post_r _ (res1 (v := (iV (i : Int))) rfl) ?_))))))))))))))
   replace hst := hst.front 1 rfl
   exact ⟨(retv1 (congrArg iV (show (i : Int) = (idxI (fun (y : Info) => decide (y.Id = x0)) l) from by exact (idx_at (p := fun (y : Info) => decide (y.Id = x0)) hN (by omega) (by assumption)).symm))), hst.sub (.cons_cons _ (.cons_cons _ (List.Sublist.refl _)))⟩
  have c40 := of_decide_eq_false b38
  refine cE_cond false (congrArg Value.bool b38) (fun h => by cases h) (fun _ => ?_)
  refine cE_skip (block_n (then_n (cE_region rfl (s_cons (op_add (k := .i64) (a := (i : Int)) (b := 1) ((i : Int) + 1) q28_8 rfl (xi64 (by omega) (by omega)) (s_cons (op_move (iV ((i : Int) + 1)) rfl (s_nil (then_n ?_)))))))))
  replace hst := hst.front 1 rfl
  exact ⟨_, ⟨(i + 1), rfl, q28_0, q28_1, q28_7, (congrArg iV (show ((i : Int) + 1) = _ from by omega)), hst, (by omega), (by exact idx_next (p := fun (y : Info) => decide (y.Id = x0)) hN (by omega) (by assumption))⟩, (by simp only [id]; omega)⟩
 have c41 := of_decide_eq_false b32
 refine cE_cond false (congrArg Value.bool b32) (fun h => by cases h) (fun _ => ?_)
 refine cE_exit (then_x (then_x (block_hit (then_n (cE_seq (cE_region rfl (s_cons (op_assign (iV (-1)) rfl (s_nil (then_n (cE_ret (post_r _ (res1 (v := (iV (-1))) rfl) ?_))))))))))))
 exact ⟨(retv1 (congrArg iV (show (-1) = (idxI (fun (y : Info) => decide (y.Id = x0)) l) from by exact (idx_end (p := fun (y : Info) => decide (y.Id = x0)) hN (by omega)).symm))), hst.sub (.cons_cons _ (.cons_cons _ (List.Sublist.refl _)))⟩

set_option maxRecDepth 8000 in
theorem c_containsC {w0 w : World} {L : List Item} (v_l : Value) (l : List Info) (g_x : Nat) (x0 : Int) (x1 : Int) (x2 : Int) (x3 : Int) (v_x4 : Value) (x4 : List Sample) (h_x4 : Sl w0 sampE v_x4 x4) (v_x5 : Value) (x5 : List Agg) (h_x5 : Sl w0 aggE v_x5 x5) (hst : St w0 w (rowT 96 infoE v_l l :: .blk g_x 76 #[(iV x0), (iV x1), (iV x2), (iV x3), v_x4, v_x5] :: L)) :
  Calls Try.prog 52 #[v_l, (.func (.func 53) #[] #[(.pointer (some ⟨g_x, 0, none⟩))])] w fun e w' => e = .returned (.bool (l.any (fun (y : Info) => decide (y.Id = x0)))) ∧ St w0 w' (rowT 96 infoE v_l l :: .blk g_x 76 #[(iV x0), (iV x1), (iV x2), (iV x3), v_x4, v_x5] :: L) := by
 refine calls_E (n := 9) (ts := [4]) Try.func52 rfl rfl rfl (by simp) (cE_seq (cE_region rfl (s_cons (op_assign (.bool false) rfl (s_nil (then_n (cE_seq (cE_region rfl (s_cons (op_move v_l rfl (s_cons (op_move (.func (.func 53) #[] #[(.pointer (some ⟨g_x, 0, none⟩))]) rfl (s_cons (op_call Try.call61 (evs_cons (v := v_l) rfl (evs_cons (v := (.func (.func 53) #[] #[(.pointer (some ⟨g_x, 0, none⟩))])) rfl evs_nil)) (c_indexC (v_l := v_l) (l := l) (g_x := g_x) (x0 := x0) (x1 := x1) (x2 := x2) (x3 := x3) (v_x4 := v_x4) (x4 := x4) (h_x4 := h_x4) (v_x5 := v_x5) (x5 := x5) (h_x5 := h_x5) (hst := hst)) ?_))))))))))))))
 rintro _ w42 ⟨rfl, hcall⟩
 refine ⟨_, rfl, ?_⟩
 have hst : St w0 w42 (rowT 96 infoE v_l l :: .blk g_x 76 #[(iV x0), (iV x1), (iV x2), (iV x3), v_x4, v_x5] :: L) := hcall
 refine s_cons (op_geq (k := .i64) (a := (idxI (fun (y : Info) => decide (y.Id = x0)) l)) (b := 0) rfl rfl (s_cons (op_assign (.bool (decide (0 ≤ (idxI (fun (y : Info) => decide (y.Id = x0)) l)))) rfl (s_nil (then_n (cE_ret (post_r _ (res1 (v := (.bool (decide (0 ≤ (idxI (fun (y : Info) => decide (y.Id = x0)) l))))) rfl) ?_)))))))
 exact ⟨(retv1 (congrArg Value.bool (show (decide (0 ≤ (idxI (fun (y : Info) => decide (y.Id = x0)) l))) = (l.any (fun (y : Info) => decide (y.Id = x0))) from by exact idx_any (p := fun (y : Info) => decide (y.Id = x0))))), hst.sub (.cons_cons _ (.cons_cons _ (List.Sublist.refl _)))⟩

end Go.Proofs.Ytldfnkhccaglmaa
