/- ask.picked -/
import Derived.Test.YtldfnkhccaglmaaXW28
import Derived.Test.YtldfnkhccaglmaaXLA
import Derived.Test.YtldfnkhccaglmaaXW24
import Derived.Test.YtldfnkhccaglmaaXW7
namespace Go.Proofs.Ytldfnkhccaglmaa
open Go.RowKit

set_option maxRecDepth 8000 in
set_option maxHeartbeats 8000000 in
theorem c_picked (w0 : World) (v_segs : Value) (segs : List Seg) (h_segs : Sl w0 segE v_segs segs) (v_head : Value) (head : List Sample) (h_head : Sl w0 sampE v_head head) (hsg : SegsIn w0 segs) (hso : ∀ s ∈ segs, s.d.ok) (hll : segs.length ≤ 1000) (hbl : (bestP (infosOf (ds segs))).length ≤ 12) :
  Calls Try.prog 36 #[v_segs, v_head] w0 fun e w' => ∃ (v : Value), ∃ (out : List Seg), ∃ (ok : Bool), e = .returned (.tuple #[v, (.bool ok)]) ∧ St w0 w' [rowT 76 segE v out] ∧ ok = okR (ds segs) head ∧ (ok = true → out.map Seg.d = pickS (ds segs)) ∧ ∀ s ∈ out, s ∈ segs := by
 have hdl := ds_len segs
 refine calls_E (n := 78) (ts := [4, 5]) Try.func36 rfl rfl rfl (by simp) ?_
 have hst := St.start w0
 refine cE_seq (cE_region rfl (s_cons (op_assign nS rfl (s_cons (op_assign (.bool false) rfl (s_nil (then_n (cE_seq (cE_region rfl (s_cons (op_assign nS rfl (s_nil (then_n (cE_seq (cE_seq (cE_region rfl (s_cons (op_move v_segs rfl (s_cons (op_len (E := segE) (xs := segs) Try.underlying44 rfl h_segs (s_cons (op_move (iV 0) rfl (s_nil (then_n (cE_block ?_)))))))))))))))))))))))))
 replace hst := hst.nilRow 96 infoE
 refine cE_loop (fun (m : Nat) (ρ : Env) (w : World) => ∃ (vo : Value) (i : Nat), m = segs.length - i ∧ ρ 0 = v_segs ∧ ρ 1 = v_head ∧ ρ 14 = v_segs ∧ ρ 15 = (iV (segs.length : Int)) ∧ ρ 6 = vo ∧ ρ 16 = (iV (i : Int)) ∧ St w0 w [rowT 96 infoE vo (infosOf ((ds segs).take i))] ∧ (i ≤ segs.length) ∧ (okTo (ds segs) i = true)) id _ ⟨nS, 0, rfl, rfl, rfl, rfl, rfl, rfl, (congrArg iV (show 0 = _ from by omega)), (by have h := hst; exact h), (by omega), (by rfl)⟩ ?_
 rintro m2 ρ3 w4 ⟨vo, i, hm2, q1_0, q1_1, q1_14, q1_15, q1_6, q1_16, hst, hi, hI⟩
 have hlen := h_segs.len
 refine cE_seq (cE_region rfl (s_cons (op_lss (k := .i64) (a := (i : Int)) (b := (segs.length : Int)) q1_16 q1_15 (s_nil (then_n (cE_seq ?_))))))
 rcases Bool.eq_false_or_eq_true (decide ((i : Int) < (segs.length : Int))) with b5 | b5
 ·have c6 := of_decide_eq_true b5
  refine cE_cond true (congrArg Value.bool b5) (fun _ => ?_) (fun h => by cases h)
  refine cE_skip (then_n (cE_seq (cE_block (cE_seq (cE_region rfl (s_cons (op_indexAddrN (E := segE) (xs := segs) i Try.underlying44 Try.sizeOf76 q1_14 h_segs q1_16 (by omega) (by omega) (fun a7 o8 p9 => ?_))))))))
  have hr := hso (segs[i]'(by omega)) (List.getElem_mem _)
  refine s_cons (op_loadN (cs := [(iV ((segs[i]'(by omega)).d.Id)), (iV ((segs[i]'(by omega)).d.Tier)), (iV ((segs[i]'(by omega)).d.From)), (iV ((segs[i]'(by omega)).d.To)), (segs[i]'(by omega)).sv.1, (segs[i]'(by omega)).av.1]) Try.isAgg76 Try.sizeOf76 rfl (Pt.of (p9.below hst.below) rfl) rfl (s_cons (op_alloc (cs := #[(iV 0), (iV 0), (iV 0), (iV 0), nS, nS]) hst Try.zeroValue76 rfl (fun g10 w11 hst _ => ?_))))
  refine s_cons0 (op_storeAll hst 0 rfl Try.sizeOf76 rfl rfl rfl rfl (oneL_all (l := [(iV ((segs[i]'(by omega)).d.Id)), (iV ((segs[i]'(by omega)).d.Tier)), (iV ((segs[i]'(by omega)).d.From)), (iV ((segs[i]'(by omega)).d.To)), (segs[i]'(by omega)).sv.1, (segs[i]'(by omega)).av.1]) ⟨rfl, rfl, rfl, rfl, (segs[i]'(by omega)).sv.2, (segs[i]'(by omega)).av.2, trivial⟩) (fun w12 hst => ?_))
  refine s_nil (then_n (cE_seq (cE_seq (cE_region rfl (s_cons (op_loadN (cs := [(iV ((segs[i]'(by omega)).d.Id)), (iV ((segs[i]'(by omega)).d.Tier)), (iV ((segs[i]'(by omega)).d.From)), (iV ((segs[i]'(by omega)).d.To)), (segs[i]'(by omega)).sv.1, (segs[i]'(by omega)).av.1]) Try.isAgg76 Try.sizeOf76 rfl (Pt.of (hst.cell 0 rfl) rfl) rfl (s_cons (op_call Try.call51 (evs_cons (v := (.agg #[(iV ((segs[i]'(by omega)).d.Id)), (iV ((segs[i]'(by omega)).d.Tier)), (iV ((segs[i]'(by omega)).d.From)), (iV ((segs[i]'(by omega)).d.To)), (segs[i]'(by omega)).sv.1, (segs[i]'(by omega)).av.1])) rfl evs_nil) (c_May2 (w0 := w12) (s := (segs[i]'(by omega))) (h_s := ⟨((hsg (segs[i]'(by omega)) (List.getElem_mem _)).1.below hst.below), ((hsg (segs[i]'(by omega)) (List.getElem_mem _)).2.below hst.below)⟩) (hs := (by omega))) ?_))))))))
  rintro _ w13 ⟨rfl, hcall⟩
  refine ⟨_, rfl, ?_⟩
  have hst := hst.call hcall
  refine s_cons (op_not (b := (mayS (segs[i]'(by omega)).d)) rfl (s_cons (op_move (.bool (!(mayS (segs[i]'(by omega)).d))) rfl ?_)))
  rcases Bool.eq_false_or_eq_true (mayS (segs[i]'(by omega)).d) with b14 | b14
  ·refine s_yes 23 rfl (congrArg Value.bool (congrArg (! ·) b14)) (op_move vo q1_6 (s_yes 23 rfl (congrArg Value.bool (congrArg (! ·) b14)) (op_makeFunc (evs_cons (v := (.pointer (some ⟨g10, 0, none⟩))) rfl evs_nil) ?_)))
   replace hst := hst.front 1 rfl
   refine s_yes 23 rfl (congrArg Value.bool (congrArg (! ·) b14)) (op_call Try.call52 (evs_cons (v := vo) rfl (evs_cons (v := (.func (.func 53) #[] #[(.pointer (some ⟨g10, 0, none⟩))])) rfl evs_nil)) (c_containsC (v_l := vo) (l := (infosOf ((ds segs).take i))) (g_x := g10) (x0 := (segs[i]'(by omega)).d.Id) (x1 := (segs[i]'(by omega)).d.Tier) (x2 := (segs[i]'(by omega)).d.From) (x3 := (segs[i]'(by omega)).d.To) (v_x4 := (segs[i]'(by omega)).sv.1) (x4 := (segs[i]'(by omega)).d.Samples) (h_x4 := (hsg (segs[i]'(by omega)) (List.getElem_mem _)).1) (v_x5 := (segs[i]'(by omega)).av.1) (x5 := (segs[i]'(by omega)).d.Aggs) (h_x5 := (hsg (segs[i]'(by omega)) (List.getElem_mem _)).2) (hst := hst)) ?_)
   rintro _ w15 ⟨rfl, hcall⟩
   refine ⟨_, rfl, ?_⟩
   have hst : St w0 w15 [rowT 96 infoE vo (infosOf ((ds segs).take i)), .blk g10 76 #[(iV ((segs[i]'(by omega)).d.Id)), (iV ((segs[i]'(by omega)).d.Tier)), (iV ((segs[i]'(by omega)).d.From)), (iV ((segs[i]'(by omega)).d.To)), (segs[i]'(by omega)).sv.1, (segs[i]'(by omega)).av.1]] := hcall
   refine s_cons (op_pick_f (.bool ((infosOf ((ds segs).take i)).any (fun (y : Info) => decide (y.Id = ((segs[i]'(by omega)).d.Id))))) (congrArg Value.bool (congrArg (! ·) b14)) rfl (s_nil (then_n ?_)))
   rcases Bool.eq_false_or_eq_true ((infosOf ((ds segs).take i)).any (fun (y : Info) => decide (y.Id = ((segs[i]'(by omega)).d.Id)))) with b16 | b16
   ·refine cE_cond true (congrArg Value.bool b16) (fun _ => ?_) (fun h => by cases h)
    refine cE_seq (cE_region rfl (s_cons (op_assign nS rfl (s_cons (op_assign (.bool false) rfl (s_nil (then_n (cE_ret (then_r (block_r (then_r (then_r (block_r (then_r (post_r _ (res2 (v := nS) rfl (x := (.bool false)) rfl) ?_)))))))))))))))
    replace hst := hst.nilRow 76 segE
    exact ⟨nS, [], false, rfl, hst.sub (.cons_cons _ (.cons _ (.cons _ .slnil))), (by exact (okR_no1 (okTo_bad2 (n := i) (by omega) (by rw [ds_gd (by omega)]; assumption))).symm), (by exact fun h => Bool.noConfusion h), (by exact asked_nil _)⟩
   refine cE_cond false (congrArg Value.bool b16) (fun h => by cases h) (fun _ => ?_)
   refine cE_skip (then_n (cE_region rfl (s_cons (op_move vo q1_6 (s_cons (op_fieldAddr (s := 0) Try.underlying76 rfl rfl Try.sizeOf3 rfl (s_cons (op_load1 (u := (iV ((segs[i]'(by omega)).d.Id))) Try.isAgg3 rfl (hst.cell 1 rfl) (s_cons (op_fieldAddr (s := 0) Try.underlying76 rfl rfl Try.sizeOf3 rfl (s_cons (op_load1 (u := (iV ((segs[i]'(by omega)).d.Tier))) Try.isAgg3 rfl ((hst.cell 1 rfl).drop 1) ?_))))))))))))
   refine s_cons (op_fieldAddr (s := 0) Try.underlying76 rfl rfl Try.sizeOf2 rfl (s_cons (op_load1 (u := (iV ((segs[i]'(by omega)).d.From))) Try.isAgg2 rfl ((hst.cell 1 rfl).drop 2) (s_cons (op_fieldAddr (s := 0) Try.underlying76 rfl rfl Try.sizeOf2 rfl (s_cons (op_load1 (u := (iV ((segs[i]'(by omega)).d.To))) Try.isAgg2 rfl ((hst.cell 1 rfl).drop 3) (s_cons (op_build (r := (.agg #[(iV ((segs[i]'(by omega)).d.Id)), (iV ((segs[i]'(by omega)).d.Tier)), (iV ((segs[i]'(by omega)).d.From)), (iV ((segs[i]'(by omega)).d.To)), (.int .u32 0)])) (evp_cons (v := (iV ((segs[i]'(by omega)).d.Id))) rfl (evp_cons (v := (iV ((segs[i]'(by omega)).d.Tier))) rfl (evp_cons (v := (iV ((segs[i]'(by omega)).d.From))) rfl (evp_cons (v := (iV ((segs[i]'(by omega)).d.To))) rfl evp_nil)))) (by simp [Instr.build, Instr.fill, Value.cells, Try.runUnderlying96, Try.zeroValue96]) ?_)))))))))
   refine s_cons (op_buildSlice (E := infoE) [(⟨(segs[i]'(by omega)).d.Id, (segs[i]'(by omega)).d.Tier, (segs[i]'(by omega)).d.From, (segs[i]'(by omega)).d.To, 0⟩ : Info)] hst Try.underlying92 Try.sizeOf96 Try.zeroValue96 (evp_cons (v := (.agg #[(iV ((segs[i]'(by omega)).d.Id)), (iV ((segs[i]'(by omega)).d.Tier)), (iV ((segs[i]'(by omega)).d.From)), (iV ((segs[i]'(by omega)).d.To)), (.int .u32 0)])) rfl evp_nil) (parts_cons rfl parts_nil) rfl (by decide) (fun v17 w18 hst => ?_))
   refine s_cons (op_append (E := infoE) (xs := (infosOf ((ds segs).take i))) (ys := [(⟨(segs[i]'(by omega)).d.Id, (segs[i]'(by omega)).d.Tier, (segs[i]'(by omega)).d.From, (segs[i]'(by omega)).d.To, 0⟩ : Info)]) (z := (.agg #[(iV 0), (iV 0), (iV 0), (iV 0), (.int .u32 0)])) (bytes := 40) hst 1 rfl Try.underlying92 (by kernel_rfl) rfl rfl rfl (hst.sl 0 rfl) (by (simp only [List.length_cons, List.length_nil, infos_len, List.length_take]; omega)) (by (simp only [List.length_cons, List.length_nil, infos_len, List.length_take]; omega)) (fun v19 w20 hst => ?_))
   replace hst : St w0 w20 [rowT 96 infoE v17 ([(⟨(segs[i]'(by omega)).d.Id, (segs[i]'(by omega)).d.Tier, (segs[i]'(by omega)).d.From, (segs[i]'(by omega)).d.To, 0⟩ : Info)]), rowT 96 infoE v19 (infosOf ((ds segs).take (i + 1))), .blk g10 76 #[(iV ((segs[i]'(by omega)).d.Id)), (iV ((segs[i]'(by omega)).d.Tier)), (iV ((segs[i]'(by omega)).d.From)), (iV ((segs[i]'(by omega)).d.To)), (segs[i]'(by omega)).sv.1, (segs[i]'(by omega)).av.1]] := by rw [show ((infosOf ((ds segs).take i)) ++ ([(⟨(segs[i]'(by omega)).d.Id, (segs[i]'(by omega)).d.Tier, (segs[i]'(by omega)).d.From, (segs[i]'(by omega)).d.To, 0⟩ : Info)])) = (infosOf ((ds segs).take (i + 1))) from (by rw [infos_snoc (by omega), ds_gd (by omega)]; rfl)] at hst; exact hst
   refine s_cons (op_assign v19 rfl (s_nil (block_n (then_n (cE_region rfl (s_cons (op_add (k := .i64) (a := (i : Int)) (b := 1) ((i : Int) + 1) q1_16 rfl (xi64 (by omega) (by omega)) (s_cons (op_move (iV ((i : Int) + 1)) rfl (s_nil (then_n ?_)))))))))))
   exact ⟨_, ⟨v19, (i + 1), rfl, q1_0, q1_1, q1_14, q1_15, rfl, (congrArg iV (show ((i : Int) + 1) = _ from by omega)), (hst.sub (.cons _ (.cons_cons _ (.cons _ .slnil)))), (by omega), (by exact okTo_step hI (by rw [ds_gd (by omega)]; assumption) (by rw [ds_gd (by omega)]; assumption))⟩, (by simp only [id]; omega)⟩
  refine s_no 23 rfl (congrArg Value.bool (congrArg (! ·) b14)) (s_no 23 rfl (congrArg Value.bool (congrArg (! ·) b14)) (s_no 23 rfl (congrArg Value.bool (congrArg (! ·) b14)) (s_cons (op_pick_t (.bool true) (congrArg Value.bool (congrArg (! ·) b14)) rfl (s_nil (then_n (cE_cond true rfl (fun _ => ?_) (fun h => by cases h))))))))
  refine cE_seq (cE_region rfl (s_cons (op_assign nS rfl (s_cons (op_assign (.bool false) rfl (s_nil (then_n (cE_ret (then_r (block_r (then_r (then_r (block_r (then_r (post_r _ (res2 (v := nS) rfl (x := (.bool false)) rfl) ?_)))))))))))))))
  replace hst := hst.nilRow 76 segE
  exact ⟨nS, [], false, rfl, hst.sub (.cons_cons _ (.cons _ (.cons _ .slnil))), (by exact (okR_no1 (okTo_bad1 (n := i) (by omega) (by rw [ds_gd (by omega)]; assumption))).symm), (by exact fun h => Bool.noConfusion h), (by exact asked_nil _)⟩
 have c21 := of_decide_eq_false b5
 refine cE_cond false (congrArg Value.bool b5) (fun h => by cases h) (fun _ => ?_)
 refine cE_exit (then_x (then_x (block_hit (then_n (cE_seq ?_)))))
 have hIA : okTo (ds segs) (ds segs).length = true := by rw [hdl, show segs.length = i by omega]; exact hI
 have hTA : (ds segs).take i = (ds segs) := take_all (by omega)
 have hil := infos_len (ds segs)
 replace hst : St w0 w4 [rowT 96 infoE vo (infosOf (ds segs))] := by rw [hTA] at hst; exact hst
 refine cE_region rfl (s_cons (op_assign nS rfl (s_nil (then_n (cE_seq (cE_region rfl (s_cons (op_assign (iV 0) rfl (s_nil (then_n (cE_seq (cE_seq (cE_region rfl (s_cons (op_move vo q1_6 (s_cons (op_call Try.call54 (evs_cons (v := vo) rfl evs_nil) (c_pick (w0 := w4) (v_l := vo) (l := (infosOf (ds segs))) (h_l := (hst.sl 0 rfl)) (hll := (by omega)) (hbl := hbl)) ?_)))))))))))))))))
 rintro _ w23 ⟨r22, rfl, hcall⟩
 refine ⟨_, rfl, ?_⟩
 have hst := hst.call hcall
 refine s_cons (op_len (E := (intE .i64)) (xs := (pickI (infosOf (ds segs)))) Try.underlying42 rfl (hst.sl 0 rfl) (s_cons (op_move (iV 0) rfl (s_nil (then_n (cE_block ?_))))))
 replace hst := hst.nilRow 76 segE
 refine cE_loop (fun (m : Nat) (ρ : Env) (w : World) => ∃ (vu : Value) (out : List Seg) (j : Nat), m = (pickI (infosOf (ds segs))).length - j ∧ ρ 0 = v_segs ∧ ρ 1 = v_head ∧ ρ 14 = v_segs ∧ ρ 15 = (iV (segs.length : Int)) ∧ ρ 6 = vo ∧ ρ 16 = (iV (i : Int)) ∧ ρ 42 = r22 ∧ ρ 43 = (iV ((pickI (infosOf (ds segs))).length : Int)) ∧ ρ 9 = vu ∧ ρ 10 = (iV (lastTo 0 ((pickS (ds segs)).take j))) ∧ ρ 44 = (iV (j : Int)) ∧ St w0 w [rowT 76 segE vu out, rowT 3 (intE .i64) r22 (pickI (infosOf (ds segs)))] ∧ (j ≤ (pickI (infosOf (ds segs))).length) ∧ (chainS 0 ((pickS (ds segs)).take j) = true) ∧ (out.map Seg.d = (pickS (ds segs)).take j) ∧ (∀ s ∈ out, s ∈ segs)) id _ ⟨nS, [], 0, rfl, q1_0, q1_1, q1_14, q1_15, q1_6, q1_16, rfl, rfl, rfl, (congrArg iV (show 0 = _ from by rfl)), (congrArg iV (show 0 = _ from by omega)), (hst.sub (.cons_cons _ (.cons_cons _ (.cons _ .slnil)))), (by omega), (by rfl), (by rfl), (by exact asked_nil _)⟩ ?_
 rintro m25 ρ26 w27 ⟨vu, out, j, hm25, q24_0, q24_1, q24_14, q24_15, q24_6, q24_16, q24_42, q24_43, q24_9, q24_10, q24_44, hst, hj, hc, ho, hsub⟩
 have hpl := pickS_len (ds segs)
 have hpi := pickI_len (infosOf (ds segs))
 have hol : out.length = j := by have := congrArg List.length ho; rw [List.length_map, List.length_take] at this; omega
 refine cE_seq (cE_region rfl (s_cons (op_lss (k := .i64) (a := (j : Int)) (b := ((pickI (infosOf (ds segs))).length : Int)) q24_44 q24_43 (s_nil (then_n (cE_seq ?_))))))
 rcases Bool.eq_false_or_eq_true (decide ((j : Int) < ((pickI (infosOf (ds segs))).length : Int))) with b28 | b28
 ·have c29 := of_decide_eq_true b28
  refine cE_cond true (congrArg Value.bool b28) (fun _ => ?_) (fun h => by cases h)
  refine cE_skip (then_n (cE_seq (cE_block (cE_seq (cE_region rfl (s_cons (op_indexAddrN (E := (intE .i64)) (xs := (pickI (infosOf (ds segs)))) j Try.underlying42 Try.sizeOf3 q24_42 (hst.sl 1 rfl) q24_44 (by omega) (by omega) (fun a30 o31 p32 => ?_))))))))
  refine s_cons (op_load1 (u := (iV ((pickI (infosOf (ds segs)))[j]'(by omega)))) Try.isAgg3 rfl p32 (s_cons (op_assign (iV ((pickI (infosOf (ds segs)))[j]'(by omega))) rfl (s_nil (then_n (cE_seq (cE_region rfl (s_cons (op_move v_segs q24_0 (s_cons (op_move (iV ((pickI (infosOf (ds segs)))[j]'(by omega))) rfl (s_cons (op_call Try.call55 (evs_cons (v := v_segs) rfl (evs_cons (v := (iV ((pickI (infosOf (ds segs)))[j]'(by omega)))) rfl evs_nil)) (c_find (w0 := w27) (v_l := v_segs) (l := segs) (h_l := (h_segs.below hst.below)) (id := ((pickI (infosOf (ds segs)))[j]'(by omega))) (hsg := (SegsIn.below hsg hst.below)) (hex := (pick_has (by omega)))) ?_)))))))))))))
  rintro _ w33 ⟨rfl, hcall⟩
  refine ⟨_, rfl, ?_⟩
  have hst := hst.call hcall
  refine s_cons (op_alloc (cs := #[(iV 0), (iV 0), (iV 0), (iV 0), nS, nS]) hst Try.zeroValue76 rfl (fun g34 w35 hst _ => ?_))
  refine s_cons0 (op_storeAll hst 0 rfl Try.sizeOf76 rfl rfl rfl rfl (oneL_all (l := [(iV ((findG segs ((pickI (infosOf (ds segs)))[j]'(by omega))).d.Id)), (iV ((findG segs ((pickI (infosOf (ds segs)))[j]'(by omega))).d.Tier)), (iV ((findG segs ((pickI (infosOf (ds segs)))[j]'(by omega))).d.From)), (iV ((findG segs ((pickI (infosOf (ds segs)))[j]'(by omega))).d.To)), (findG segs ((pickI (infosOf (ds segs)))[j]'(by omega))).sv.1, (findG segs ((pickI (infosOf (ds segs)))[j]'(by omega))).av.1]) ⟨rfl, rfl, rfl, rfl, (findG segs ((pickI (infosOf (ds segs)))[j]'(by omega))).sv.2, (findG segs ((pickI (infosOf (ds segs)))[j]'(by omega))).av.2, trivial⟩) (fun w36 hst => ?_))
  refine s_nil (then_n (cE_seq (cE_seq ?_)))
  have hex := pick_has (l := segs) (j := j) (by omega)
  have hgd : gd (pickS (ds segs)) j = (findG segs ((pickI (infosOf (ds segs)))[j]'(by omega))).d := (pickS_gd (by omega)).trans (find_is hex).1.symm
  have hlt : lastTo 0 ((pickS (ds segs)).take (j + 1)) = (findG segs ((pickI (infosOf (ds segs)))[j]'(by omega))).d.To := (last_snoc (by omega)).trans (by rw [hgd])
  refine cE_region rfl (s_cons (op_fieldAddr (s := 0) Try.underlying76 rfl rfl Try.sizeOf2 rfl (s_cons (op_load1 (u := (iV ((findG segs ((pickI (infosOf (ds segs)))[j]'(by omega))).d.From))) Try.isAgg2 rfl ((hst.cell 0 rfl).drop 2) (s_cons (op_move (iV (lastTo 0 ((pickS (ds segs)).take j))) q24_10 (s_cons (op_lss (k := .i64) (a := (findG segs ((pickI (infosOf (ds segs)))[j]'(by omega))).d.From) (b := (lastTo 0 ((pickS (ds segs)).take j))) rfl rfl ?_))))))))
  refine s_nil (then_n ?_)
  rcases Bool.eq_false_or_eq_true (decide (((findG segs ((pickI (infosOf (ds segs)))[j]'(by omega))).d.From) < (lastTo 0 ((pickS (ds segs)).take j)))) with b37 | b37
  ·have c38 := of_decide_eq_true b37
   refine cE_cond true (congrArg Value.bool b37) (fun _ => ?_) (fun h => by cases h)
   refine cE_seq (cE_region rfl (s_cons (op_assign nS rfl (s_cons (op_assign (.bool false) rfl (s_nil (then_n (cE_ret (then_r (block_r (then_r (then_r (block_r (then_r (post_r _ (res2 (v := nS) rfl (x := (.bool false)) rfl) ?_)))))))))))))))
   replace hst := hst.nilRow 76 segE
   exact ⟨nS, [], false, rfl, hst.sub (.cons_cons _ (.cons _ (.cons _ (.cons _ .slnil)))), (by exact (okR_no2 (chain_bad (j := j) (by omega) (by rw [hgd]; assumption))).symm), (by exact fun h => Bool.noConfusion h), (by exact asked_nil _)⟩
  have c39 := of_decide_eq_false b37
  refine cE_cond false (congrArg Value.bool b37) (fun h => by cases h) (fun _ => ?_)
  refine cE_skip (then_n (cE_regionM (fun (D : Nat → Bool) (w : World) => St w0 w [.blk g34 76 #[(iV ((findG segs ((pickI (infosOf (ds segs)))[j]'(by omega))).d.Id)), (iV ((findG segs ((pickI (infosOf (ds segs)))[j]'(by omega))).d.Tier)), (iV ((findG segs ((pickI (infosOf (ds segs)))[j]'(by omega))).d.From)), (iV ((findG segs ((pickI (infosOf (ds segs)))[j]'(by omega))).d.To)), (findG segs ((pickI (infosOf (ds segs)))[j]'(by omega))).sv.1, (findG segs ((pickI (infosOf (ds segs)))[j]'(by omega))).av.1], rowT 3 (intE .i64) r22 (pickI (infosOf (ds segs)))] ∧ (D 3 = false → St w0 w [.blk g34 76 #[(iV ((findG segs ((pickI (infosOf (ds segs)))[j]'(by omega))).d.Id)), (iV ((findG segs ((pickI (infosOf (ds segs)))[j]'(by omega))).d.Tier)), (iV ((findG segs ((pickI (infosOf (ds segs)))[j]'(by omega))).d.From)), (iV ((findG segs ((pickI (infosOf (ds segs)))[j]'(by omega))).d.To)), (findG segs ((pickI (infosOf (ds segs)))[j]'(by omega))).sv.1, (findG segs ((pickI (infosOf (ds segs)))[j]'(by omega))).av.1], rowT 76 segE vu out, rowT 3 (intE .i64) r22 (pickI (infosOf (ds segs)))])) [[(9, none)], [(13, none)], [(56, some 1)], [(55, some 0), (57, some 2)], [(13, none)], [(59, some 4)], [(58, some 3)], [(60, some 5)]] [3] [(kEq vu), (kEq (.agg #[(iV ((findG segs ((pickI (infosOf (ds segs)))[j]'(by omega))).d.Id)), (iV ((findG segs ((pickI (infosOf (ds segs)))[j]'(by omega))).d.Tier)), (iV ((findG segs ((pickI (infosOf (ds segs)))[j]'(by omega))).d.From)), (iV ((findG segs ((pickI (infosOf (ds segs)))[j]'(by omega))).d.To)), (findG segs ((pickI (infosOf (ds segs)))[j]'(by omega))).sv.1, (findG segs ((pickI (infosOf (ds segs)))[j]'(by omega))).av.1])), (kSlU [3] segE ([(findG segs ((pickI (infosOf (ds segs)))[j]'(by omega)))])), (fun (D : Nat → Bool) (v42 : Value) (w : World) => (D 3 = true → St w0 w [rowT 76 segE v42 (out ++ ([(findG segs ((pickI (infosOf (ds segs)))[j]'(by omega)))])), .blk g34 76 #[(iV ((findG segs ((pickI (infosOf (ds segs)))[j]'(by omega))).d.Id)), (iV ((findG segs ((pickI (infosOf (ds segs)))[j]'(by omega))).d.Tier)), (iV ((findG segs ((pickI (infosOf (ds segs)))[j]'(by omega))).d.From)), (iV ((findG segs ((pickI (infosOf (ds segs)))[j]'(by omega))).d.To)), (findG segs ((pickI (infosOf (ds segs)))[j]'(by omega))).sv.1, (findG segs ((pickI (infosOf (ds segs)))[j]'(by omega))).av.1], rowT 3 (intE .i64) r22 (pickI (infosOf (ds segs)))])), (kEq (.pointer (some ⟨g34, (0 + 3), none⟩))), (kEq (iV ((findG segs ((pickI (infosOf (ds segs)))[j]'(by omega))).d.To))), (fun (D : Nat → Bool) (v42 : Value) (w : World) => (D 3 = true → St w0 w [rowT 76 segE v42 (out ++ ([(findG segs ((pickI (infosOf (ds segs)))[j]'(by omega)))])), .blk g34 76 #[(iV ((findG segs ((pickI (infosOf (ds segs)))[j]'(by omega))).d.Id)), (iV ((findG segs ((pickI (infosOf (ds segs)))[j]'(by omega))).d.Tier)), (iV ((findG segs ((pickI (infosOf (ds segs)))[j]'(by omega))).d.From)), (iV ((findG segs ((pickI (infosOf (ds segs)))[j]'(by omega))).d.To)), (findG segs ((pickI (infosOf (ds segs)))[j]'(by omega))).sv.1, (findG segs ((pickI (infosOf (ds segs)))[j]'(by omega))).av.1], rowT 3 (intE .i64) r22 (pickI (infosOf (ds segs)))])), (kEq (iV ((findG segs ((pickI (infosOf (ds segs)))[j]'(by omega))).d.To)))] ⟨mEq, mEq, (mSlUs (by decide)), (fun D D' v w w' hD hb h2 => (fun x0 => (h2 ((hD 3 (by decide)).symm.trans x0)).ext hb)), mEq, mEq, (fun D D' v w w' hD hb h2 => (fun x0 => (h2 ((hD 3 (by decide)).symm.trans x0)).ext hb)), mEq, trivial⟩ (by kernel_rfl) rfl (by kernel_rfl) ⟨hst.drewW.sub (.cons_cons _ (.cons _ (.cons_cons _ .slnil))), (fun _ => hst.drewW)⟩ (fun hM => ⟨?_, ?_, ?_, ?_, ?_, ?_, ?_, ?_, trivial⟩) ?_))
  ·rintro D ρo wo nD eD cD jD aD ⟨f9, _⟩
   exact go_plain (op_move vu (f9.trans q24_9) (kN0 (i := 0) hM (by decide) (by exact jD) (by exact rfl)))
  ·rintro D ρo wo nD eD cD jD aD ⟨f13, _⟩
   have hst := jD.2 (not_yet nD (fun hm => (cD 2 1 (cD 3 2 hm (by kernel_rfl)) (by kernel_rfl))))
   exact go_plain (op_loadN (cs := [(iV ((findG segs ((pickI (infosOf (ds segs)))[j]'(by omega))).d.Id)), (iV ((findG segs ((pickI (infosOf (ds segs)))[j]'(by omega))).d.Tier)), (iV ((findG segs ((pickI (infosOf (ds segs)))[j]'(by omega))).d.From)), (iV ((findG segs ((pickI (infosOf (ds segs)))[j]'(by omega))).d.To)), (findG segs ((pickI (infosOf (ds segs)))[j]'(by omega))).sv.1, (findG segs ((pickI (infosOf (ds segs)))[j]'(by omega))).av.1]) Try.isAgg76 Try.sizeOf76 (f13.trans rfl) (Pt.of (hst.cell 0 rfl) rfl) rfl (kN0 (i := 1) hM (by decide) (by exact jD) (by exact rfl)))
  ·rintro D ρo wo nD eD cD jD aD ⟨f56, _⟩
   have hst := jD.2 (not_yet nD (fun hm => (cD 3 2 hm (by kernel_rfl))))
   have hst := St.start wo
   refine go_plain (op_buildSlice (E := segE) [(findG segs ((pickI (infosOf (ds segs)))[j]'(by omega)))] hst Try.underlying44 Try.sizeOf76 Try.zeroValue76 (evp_cons (v := (.agg #[(iV ((findG segs ((pickI (infosOf (ds segs)))[j]'(by omega))).d.Id)), (iV ((findG segs ((pickI (infosOf (ds segs)))[j]'(by omega))).d.Tier)), (iV ((findG segs ((pickI (infosOf (ds segs)))[j]'(by omega))).d.From)), (iV ((findG segs ((pickI (infosOf (ds segs)))[j]'(by omega))).d.To)), (findG segs ((pickI (infosOf (ds segs)))[j]'(by omega))).sv.1, (findG segs ((pickI (infosOf (ds segs)))[j]'(by omega))).av.1])) f56 evp_nil) (parts_cons rfl parts_nil) rfl (by decide) (fun v45 w46 hst => ?_))
   exact kN (i := 2) hM (by decide) hst.below (by exact ⟨(jD.1).ext hst.below, (fun x0 => (jD.2 x0).ext hst.below)⟩) (by exact fun _ => hst.sl 0 rfl)
  ·rintro D ρo wo nD eD cD jD aD ⟨f55, f57, _⟩
   have hst := jD.2 nD
   obtain ⟨v48, e49⟩ : ∃ x, ρo 57 = x := ⟨_, rfl⟩
   have hs47 := f57 (by intro m hm; obtain rfl := List.mem_singleton.1 hm; exact nD)
   replace hs47 : Sl wo segE v48 ([(findG segs ((pickI (infosOf (ds segs)))[j]'(by omega)))]) := e49 ▸ hs47
   refine go_plain (op_append (E := segE) (xs := out) (ys := [(findG segs ((pickI (infosOf (ds segs)))[j]'(by omega)))]) (z := (.agg #[(iV 0), (iV 0), (iV 0), (iV 0), nS, nS])) (bytes := 80) hst 1 rfl Try.underlying44 (by kernel_rfl) rfl f55 e49 hs47 (by (simp; omega)) (by (simp; omega)) (fun v50 w51 hst => ?_))
   replace hst := hst.front 2 rfl
   replace hst := hst.front 1 rfl
   replace hst := hst.front 2 rfl
   refine ⟨by exact ⟨hst.sub (.cons _ (.cons_cons _ (.cons_cons _ .slnil))), (fun y0 => absurd y0 (fun h => Bool.noConfusion h))⟩, by exact (fun y0 => hst.sub (.cons_cons _ (.cons_cons _ (.cons_cons _ .slnil)))), kX [] (by exact ⟨Or.inr (Or.inr (Or.inr iEq)), Or.inr (Or.inr (Or.inr iEq)), Or.inr (Or.inr (Or.inr (iSlU (by decide)))), Or.inl rfl, Or.inr (Or.inr (Or.inr iEq)), Or.inr (Or.inr (Or.inr iEq)), Or.inr (Or.inr (Or.inl (not_yet nD (fun hm => (cD 6 3 hm (by kernel_rfl)))))), Or.inr (Or.inr (Or.inl (not_yet nD (fun hm => (cD 7 3 hm (by kernel_rfl)))))), trivial⟩) ?_⟩
   intro j d hj; cases hj
  ·rintro D ρo wo nD eD cD jD aD ⟨f13, _⟩
   exact go_plain (op_fieldAddr (s := 0) Try.underlying76 rfl rfl Try.sizeOf2 (f13.trans rfl) (kN0 (i := 4) hM (by decide) (by exact jD) (by exact rfl)))
  ·rintro D ρo wo nD eD cD jD aD ⟨f59, _⟩
   have hst := jD.1
   exact go_plain (op_load1 (u := (iV ((findG segs ((pickI (infosOf (ds segs)))[j]'(by omega))).d.To))) Try.isAgg2 f59 ((hst.cell 0 rfl).drop 3) (kN0 (i := 5) hM (by decide) (by exact jD) (by exact rfl)))
  ·rintro D ρo wo nD eD cD jD aD ⟨f58, _⟩
   obtain ⟨v53, e54⟩ : ∃ x, ρo 58 = x := ⟨_, rfl⟩
   have hh55 := aD 3 58 (eD 3 (by kernel_rfl)) rfl
   have hst : St w0 wo [rowT 76 segE v53 (out ++ ([(findG segs ((pickI (infosOf (ds segs)))[j]'(by omega)))])), .blk g34 76 #[(iV ((findG segs ((pickI (infosOf (ds segs)))[j]'(by omega))).d.Id)), (iV ((findG segs ((pickI (infosOf (ds segs)))[j]'(by omega))).d.Tier)), (iV ((findG segs ((pickI (infosOf (ds segs)))[j]'(by omega))).d.From)), (iV ((findG segs ((pickI (infosOf (ds segs)))[j]'(by omega))).d.To)), (findG segs ((pickI (infosOf (ds segs)))[j]'(by omega))).sv.1, (findG segs ((pickI (infosOf (ds segs)))[j]'(by omega))).av.1], rowT 3 (intE .i64) r22 (pickI (infosOf (ds segs)))] := by have h := hh55 (eD 3 (by kernel_rfl)); rw [e54] at h; exact h
   exact go_plain (op_assign _ rfl (kN0 (i := 6) hM (by decide) (by exact jD) (by exact f58)))
  ·rintro D ρo wo nD eD cD jD aD ⟨f60, _⟩
   obtain ⟨v56, e57⟩ : ∃ x, ρo 9 = x := ⟨_, rfl⟩
   have hh58 := aD 6 9 (eD 6 (by kernel_rfl)) rfl
   have hst : St w0 wo [rowT 76 segE v56 (out ++ ([(findG segs ((pickI (infosOf (ds segs)))[j]'(by omega)))])), .blk g34 76 #[(iV ((findG segs ((pickI (infosOf (ds segs)))[j]'(by omega))).d.Id)), (iV ((findG segs ((pickI (infosOf (ds segs)))[j]'(by omega))).d.Tier)), (iV ((findG segs ((pickI (infosOf (ds segs)))[j]'(by omega))).d.From)), (iV ((findG segs ((pickI (infosOf (ds segs)))[j]'(by omega))).d.To)), (findG segs ((pickI (infosOf (ds segs)))[j]'(by omega))).sv.1, (findG segs ((pickI (infosOf (ds segs)))[j]'(by omega))).av.1], rowT 3 (intE .i64) r22 (pickI (infosOf (ds segs)))] := by have h := hh58 (eD 3 (by kernel_rfl)); rw [e57] at h; exact h
   exact go_plain (op_assign (iV ((findG segs ((pickI (infosOf (ds segs)))[j]'(by omega))).d.To)) f60 (kN0 (i := 7) hM (by decide) (by exact jD) (by exact rfl)))
  intro ρ59 w60 Dw60 hallw60 hJw60 hRw60 hkw60
  obtain ⟨v61, uw60_9⟩ : ∃ x, ρ59 9 = x := ⟨_, rfl⟩
  have hst : St w0 w60 [rowT 76 segE v61 (out ++ ([(findG segs ((pickI (infosOf (ds segs)))[j]'(by omega)))])), .blk g34 76 #[(iV ((findG segs ((pickI (infosOf (ds segs)))[j]'(by omega))).d.Id)), (iV ((findG segs ((pickI (infosOf (ds segs)))[j]'(by omega))).d.Tier)), (iV ((findG segs ((pickI (infosOf (ds segs)))[j]'(by omega))).d.From)), (iV ((findG segs ((pickI (infosOf (ds segs)))[j]'(by omega))).d.To)), (findG segs ((pickI (infosOf (ds segs)))[j]'(by omega))).sv.1, (findG segs ((pickI (infosOf (ds segs)))[j]'(by omega))).av.1], rowT 3 (intE .i64) r22 (pickI (infosOf (ds segs)))] := by have h := hRw60 6 9 rfl; rw [uw60_9] at h; exact (h (hallw60 3 (show 3 < 8 from by decide)))
  have uw60_0 := (hkw60 0 rfl).trans q24_0
  have uw60_1 := (hkw60 1 rfl).trans q24_1
  have uw60_14 := (hkw60 14 rfl).trans q24_14
  have uw60_15 := (hkw60 15 rfl).trans q24_15
  have uw60_6 := (hkw60 6 rfl).trans q24_6
  have uw60_16 := (hkw60 16 rfl).trans q24_16
  have uw60_42 := (hkw60 42 rfl).trans q24_42
  have uw60_43 := (hkw60 43 rfl).trans q24_43
  have uw60_44 := (hkw60 44 rfl).trans q24_44
  have uw60_10 : ρ59 10 = (iV ((findG segs ((pickI (infosOf (ds segs)))[j]'(by omega))).d.To)) := hRw60 7 10 rfl
  refine block_n (then_n (cE_region rfl (s_cons (op_add (k := .i64) (a := (j : Int)) (b := 1) ((j : Int) + 1) uw60_44 rfl (xi64 (by omega) (by omega)) (s_cons (op_move (iV ((j : Int) + 1)) rfl (s_nil (then_n ?_))))))))
  exact ⟨_, ⟨v61, (out ++ ([(findG segs ((pickI (infosOf (ds segs)))[j]'(by omega)))])), (j + 1), rfl, uw60_0, uw60_1, uw60_14, uw60_15, uw60_6, uw60_16, uw60_42, uw60_43, uw60_9, (uw60_10.trans (congrArg iV (show (findG segs ((pickI (infosOf (ds segs)))[j]'(by omega))).d.To = _ from by exact hlt.symm))), (congrArg iV (show ((j : Int) + 1) = _ from by omega)), (hst.sub (.cons_cons _ (.cons _ (.cons_cons _ .slnil)))), (by omega), (by exact chain_snoc (by omega) hc (by rw [hgd]; assumption)), (by exact asked_step (by omega) ho), (by exact asked_sub (by omega) hsub)⟩, (by simp only [id]; omega)⟩
 have c62 := of_decide_eq_false b28
 refine cE_cond false (congrArg Value.bool b28) (fun h => by cases h) (fun _ => ?_)
 refine cE_exit (then_x (then_x (block_hit (then_n (cE_seq ?_)))))
 have hPA : (pickS (ds segs)).take j = pickS (ds segs) := take_all (by omega)
 have hoA : out.map Seg.d = pickS (ds segs) := ho.trans hPA
 have hcA : chainS 0 (pickS (ds segs)) = true := by rw [← hPA]; exact hc
 have hkR := okR_is (head := head) hIA hcA
 obtain ⟨g64, hg65⟩ : ∃ x : Bool, x = ((risingA head) && (!(decide ((head.length : Int) = 0)))) := ⟨_, rfl⟩
 obtain ⟨g97, hg98⟩ : ∃ x : Bool, x = ((decide ((head.length : Int) = 0)) || (decide ((lastTo 0 ((pickS (ds segs)).take j)) ≤ ((gd head 0).T)))) := ⟨_, rfl⟩
 obtain ⟨g99, hg100⟩ : ∃ x : Bool, x = ((risingA head) && g97) := ⟨_, rfl⟩
 refine cE_regionM (fun (D : Nat → Bool) (w : World) => St w0 w [rowT 76 segE vu out, rowT 3 (intE .i64) r22 (pickI (infosOf (ds segs)))] ∧ (St w0 w [rowT 76 segE vu out, rowT 3 (intE .i64) r22 (pickI (infosOf (ds segs)))])) [[(9, none)], [(1, none)], [(63, some 1)], [(64, some 2)], [(1, none), (65, some 3)], [(66, some 4), (65, some 3)], [(67, some 5), (65, some 3)], [(68, some 6), (65, some 3)], [(1, none), (69, some 7)], [(70, some 8), (69, some 7)], [(71, some 9), (69, some 7)], [(72, some 10), (69, some 7)], [(10, none), (69, some 7)], [(73, some 11), (74, some 12), (69, some 7)], [(69, some 7), (75, some 13), (65, some 3)], [(65, some 3), (76, some 14)], [(62, some 0)], [(77, some 15)]] [] [(kEq vu), (kEq v_head), (kEq (.bool (risingA head))), (kEq (.bool (risingA head))), (kEq (bif (risingA head) then v_head else undef)), (kEq (bif (risingA head) then (iV (head.length : Int)) else undef)), (kEq (bif (risingA head) then (.bool (decide ((head.length : Int) = 0))) else undef)), (kEq (bif (risingA head) then (.bool (decide ((head.length : Int) = 0))) else undef)), (kEq (bif g64 then v_head else undef)), (kPtc w0 g64 [(iV ((gd head 0).T)), (iV ((gd head 0).V))]), (kPtc w0 g64 [(iV ((gd head 0).T)), (iV ((gd head 0).V))]), (kEq (bif g64 then (iV ((gd head 0).T)) else undef)), (kEq (bif g64 then (iV (lastTo 0 ((pickS (ds segs)).take j))) else undef)), (kEq (bif g64 then (.bool (decide ((lastTo 0 ((pickS (ds segs)).take j)) ≤ ((gd head 0).T)))) else undef)), (kEq (bif (risingA head) then (.bool g97) else undef)), (kEq (.bool g99)), (kEq vu), (kEq (.bool g99))] ⟨mEq, mEq, mEq, mEq, mEq, mEq, mEq, mEq, mEq, mPtc, mPtc, mEq, mEq, mEq, mEq, mEq, mEq, mEq, trivial⟩ (by kernel_rfl) rfl (by kernel_rfl) ⟨hst.drewW.sub (.cons_cons _ (.cons_cons _ .slnil)), hst.drewW⟩ (fun hM => ⟨?_, ?_, ?_, ?_, ?_, ?_, ?_, ?_, ?_, ?_, ?_, ?_, ?_, ?_, ?_, ?_, ?_, ?_, trivial⟩) ?_
 ·rintro D ρo wo nD eD cD jD aD ⟨f9, _⟩
  exact go_plain (op_move vu (f9.trans q24_9) (kN0 (i := 0) hM (by decide) (by exact jD) (by exact rfl)))
 ·rintro D ρo wo nD eD cD jD aD ⟨f1, _⟩
  exact go_plain (op_move v_head (f1.trans q24_1) (kN0 (i := 1) hM (by decide) (by exact jD) (by exact rfl)))
 ·rintro D ρo wo nD eD cD jD aD ⟨f63, _⟩
  have hst := jD.2 
  refine go_plain (op_call Try.call20 (evs_cons (v := v_head) f63 evs_nil) (c_Rising (w0 := wo) (v_l := v_head) (l := head) (h_l := (h_head.below hst.below))) ?_)
  rintro _ w102 ⟨rfl, hcall⟩
  refine ⟨_, rfl, ?_⟩
  exact kN (i := 2) hM (by decide) hcall.below (by exact ⟨(jD.1).ext hcall.below, (jD.2).ext hcall.below⟩) (by exact rfl)
 ·rintro D ρo wo nD eD cD jD aD ⟨f64, _⟩
  exact go_plain (op_move (.bool (risingA head)) f64 (kN0 (i := 3) hM (by decide) (by exact jD) (by exact rfl)))
 ·rintro D ρo wo nD eD cD jD aD ⟨f1, f65, _⟩
  refine go_lz 65 rfl (gA_t f65) ?_ (fun hc103 => (kN0 (i := 4) hM (by decide) (by exact jD) (by exact (gf hc103).symm)))
  intro hc103
  exact id (op_move v_head (f1.trans q24_1) (kN0 (i := 4) hM (by decide) (by exact jD) (by exact (gt hc103).symm)))
 ·rintro D ρo wo nD eD cD jD aD ⟨f66, f65, _⟩
  refine go_lz 65 rfl (gA_t f65) ?_ (fun hc104 => (kN0 (i := 5) hM (by decide) (by exact jD) (by exact (gf hc104).symm)))
  intro hc104
  exact id (op_len (E := sampE) (xs := head) Try.underlying23 (f66.trans (gt hc104)) h_head (kN0 (i := 5) hM (by decide) (by exact jD) (by exact (gt hc104).symm)))
 ·rintro D ρo wo nD eD cD jD aD ⟨f67, f65, _⟩
  refine go_lz 65 rfl (gA_t f65) ?_ (fun hc105 => (kN0 (i := 6) hM (by decide) (by exact jD) (by exact (gf hc105).symm)))
  intro hc105
  exact id (op_eql (k := .i64) (a := (head.length : Int)) (b := 0) (f67.trans (gt hc105)) rfl (kN0 (i := 6) hM (by decide) (by exact jD) (by exact (gt hc105).symm)))
 ·rintro D ρo wo nD eD cD jD aD ⟨f68, f65, _⟩
  refine go_lz 65 rfl (gA_t f65) ?_ (fun hc106 => (kN0 (i := 7) hM (by decide) (by exact jD) (by exact (gf hc106).symm)))
  intro hc106
  exact id (op_move (.bool (decide ((head.length : Int) = 0))) (f68.trans (gt hc106)) (kN0 (i := 7) hM (by decide) (by exact jD) (by exact (gt hc106).symm)))
 ·rintro D ρo wo nD eD cD jD aD ⟨f1, f69, _⟩
  refine go_lz 69 rfl ((gB_f f69).trans hg65.symm) ?_ (fun hc107 => (kN0 (i := 8) hM (by decide) (by exact jD) (by exact (gf hc107).symm)))
  intro hc107
  exact id (op_move v_head (f1.trans q24_1) (kN0 (i := 8) hM (by decide) (by exact jD) (by exact (gt hc107).symm)))
 ·rintro D ρo wo nD eD cD jD aD ⟨f70, f69, _⟩
  refine go_lz 69 rfl ((gB_f f69).trans hg65.symm) ?_ (fun hc108 => (kN0 (i := 9) hM (by decide) (by exact jD) (by exact fun h => absurd (show _ = true from h) (by rw [hc108]; decide))))
  intro hc108
  have c109 : (risingA head) = true := (and_l (hg65.symm.trans hc108))
  have c110 : ¬ ((head.length : Int) = 0) := of_decide_eq_false (not_t (and_r (hg65.symm.trans hc108)))
  refine id (op_indexAddrD (E := sampE) (xs := head) 0 Try.underlying23 Try.sizeOf51 (f70.trans (gt hc108)) h_head rfl (by omega) (by omega) (fun a111 o112 p113 => ?_))
  exact (kN0 (i := 9) hM (by decide) (by exact jD) (by exact fun _ => ⟨_, _, rfl, p113⟩))
 ·rintro D ρo wo nD eD cD jD aD ⟨f71, f69, _⟩
  refine go_lz 69 rfl ((gB_f f69).trans hg65.symm) ?_ (fun hc114 => (kN0 (i := 10) hM (by decide) (by exact jD) (by exact fun h => absurd (show _ = true from h) (by rw [hc114]; decide))))
  intro hc114
  obtain ⟨a115, o116, e117, p118⟩ := f71 hc114
  exact id (op_fieldAddr (s := 0) Try.underlying51 rfl rfl Try.sizeOf2 e117 (kN0 (i := 10) hM (by decide) (by exact jD) (by exact fun _ => ⟨_, _, rfl, p118⟩)))
 ·rintro D ρo wo nD eD cD jD aD ⟨f72, f69, _⟩
  refine go_lz 69 rfl ((gB_f f69).trans hg65.symm) ?_ (fun hc119 => (kN0 (i := 11) hM (by decide) (by exact jD) (by exact (gf hc119).symm)))
  intro hc119
  have hst := jD.2 
  obtain ⟨a120, o121, e122, p123⟩ := f72 hc119
  exact id (op_load1 (u := (iV ((gd head 0).T))) Try.isAgg2 e122 (p123.below hst.below) (kN0 (i := 11) hM (by decide) (by exact jD) (by exact (gt hc119).symm)))
 ·rintro D ρo wo nD eD cD jD aD ⟨f10, f69, _⟩
  refine go_lz 69 rfl ((gB_f f69).trans hg65.symm) ?_ (fun hc124 => (kN0 (i := 12) hM (by decide) (by exact jD) (by exact (gf hc124).symm)))
  intro hc124
  exact id (op_move (iV (lastTo 0 ((pickS (ds segs)).take j))) (f10.trans q24_10) (kN0 (i := 12) hM (by decide) (by exact jD) (by exact (gt hc124).symm)))
 ·rintro D ρo wo nD eD cD jD aD ⟨f73, f74, f69, _⟩
  refine go_lz 69 rfl ((gB_f f69).trans hg65.symm) ?_ (fun hc125 => (kN0 (i := 13) hM (by decide) (by exact jD) (by exact (gf hc125).symm)))
  intro hc125
  exact id (op_geq (k := .i64) (a := (gd head 0).T) (b := (lastTo 0 ((pickS (ds segs)).take j))) (f73.trans (gt hc125)) (f74.trans (gt hc125)) (kN0 (i := 13) hM (by decide) (by exact jD) (by exact (gt hc125).symm)))
 ·rintro D ρo wo nD eD cD jD aD ⟨f69, f75, f65, _⟩
  refine go_lz 65 rfl (gA_t f65) ?_ (fun hc126 => (kN0 (i := 14) hM (by decide) (by exact jD) (by exact (gf hc126).symm)))
  intro hc126
  refine id (op_pick_or (f69.trans (gt hc126)) rfl f75 (fun hp => (hg65.trans (and_i hc126 (congrArg (! ·) hp)))) ?_)
  exact (kN0 (i := 14) hM (by decide) (by exact jD) (by exact ((congrArg Value.bool hg98.symm).trans (gt hc126).symm)))
 ·rintro D ρo wo nD eD cD jD aD ⟨f65, f76, _⟩
  refine go_plain (op_pick_and f65 f76 (fun hp => hp) rfl ?_)
  exact (kN0 (i := 15) hM (by decide) (by exact jD) (by exact (congrArg Value.bool hg100.symm)))
 ·rintro D ρo wo nD eD cD jD aD ⟨f62, _⟩
  exact go_plain (op_assign vu f62 (kN0 (i := 16) hM (by decide) (by exact jD) (by exact rfl)))
 ·rintro D ρo wo nD eD cD jD aD ⟨f77, _⟩
  exact go_plain (op_assign (.bool g99) f77 (kN0 (i := 17) hM (by decide) (by exact jD) (by exact rfl)))
 intro ρ127 w128 Dw128 hallw128 hJw128 hRw128 hkw128
 have hst : St w0 w128 [rowT 76 segE vu out, rowT 3 (intE .i64) r22 (pickI (infosOf (ds segs)))] := hJw128.2 
 have uw128_4 : ρ127 4 = vu := hRw128 16 4 rfl
 have uw128_5 : ρ127 5 = (.bool g99) := hRw128 17 5 rfl
 refine then_n (cE_ret (post_r _ (res2 (v := vu) uw128_4 (x := (.bool g99)) uw128_5) ?_))
 exact ⟨vu, out, g99, rfl, hst.sub (.cons_cons _ (.cons _ .slnil)), (by (rw [hg100, hg98, hkR, okHead, hPA])), (by exact fun _ => hoA), (by exact hsub)⟩

end Go.Proofs.Ytldfnkhccaglmaa
