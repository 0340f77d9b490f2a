/- order.Bodies -/
import Derived.Test.YtadnedoecbfojaaW30
import Derived.Test.YtadnedoecbfojaaW24
namespace Go.Proofs.Ytadnedoecbfojaa
open Go.RowKit

set_option maxHeartbeats 4000000 in
theorem c_bodies (w0 : World) (v_l : Value) (l : List Info) (h_l : Sl w0 infoE v_l l) (v_r : Value) (r : List Info) (h_r : Sl w0 infoE v_r r) (hll : l.length ≤ 1000000) (hrl : r.length ≤ 1000000) :
    Calls Try.prog 12 #[v_l, v_r] w0 fun e w' => ∃ (v : Value), e = .returned v ∧ St w0 w' [rowT 3 (intE .i64) v (bodies l r)] := by
  refine calls_E (n := 40) (ts := [4]) Try.func12 rfl rfl rfl (by simp) ?_
  have hst := St.start w0
  refine cE_seq ?_
  refine cE_region rfl ?_
  refine s_cons (op_assign (.slice none 0 0) rfl ?_)
  refine s_nil ?_
  refine then_n ?_
  refine cE_scope ?_
  refine cE_seq ?_
  refine cE_region rfl ?_
  refine s_cons (op_assign (.slice none 0 0) rfl ?_)
  refine s_nil ?_
  refine then_n ?_
  refine cE_seq ?_
  refine cE_label ?_
  refine then_n ?_
  refine cE_seq ?_
  refine cE_seq ?_
  refine cE_region rfl ?_
  refine s_cons (op_move v_l rfl ?_)
  refine s_cons (op_len (E := infoE) (xs := l) Try.underlying22 rfl h_l ?_)
  refine s_cons (op_move (.int .i64 0) rfl ?_)
  refine s_nil ?_
  refine then_n ?_
  refine cE_block ?_
  replace hst : St w0 w0 [rowT 34 infoE (.slice none 0 0) ([])] := hst.nilRow 34 infoE
  refine cE_loop (fun (m : Nat) (ρ : Env) (w : World) => ∃ (vo : Value) (ys : List Info) (i : Nat), m = l.length - i ∧ ρ 0 = v_l ∧ ρ 1 = v_r ∧ ρ 4 = (.slice none 0 0) ∧ ρ 11 = v_l ∧ ρ 12 = (.int .i64 (l.length : Int)) ∧ ρ 5 = vo ∧ ρ 13 = (.int .i64 (i : Int)) ∧ St w0 w [rowT 34 infoE vo ys] ∧ (i ≤ l.length) ∧ (ys = left (l.take i) r)) id _ ⟨(.slice none 0 0), [], 0, rfl, rfl, rfl, rfl, rfl, rfl, rfl, (congrArg (Value.int .i64) (show 0 = _ from by omega)), hst, (by omega), (by first | rfl | exact hI.trans (left_yes (by omega) (by assumption)).symm | (rw [hI]; exact (left_no (by omega) (by assumption)).symm))⟩ ?_
  rintro m2 ρ3 w4 ⟨vo, ys, i, hm2, q1_0, q1_1, q1_4, q1_11, q1_12, q1_5, q1_13, hst, hi, hI⟩
  have hlen := h_l.len
  have hyl : ys.length ≤ i := by rw [hI]; have := left_len (l.take i) r; simp only [List.length_take] at this; omega
  refine cE_seq ?_
  refine cE_region rfl ?_
  refine s_cons (op_lss (k := .i64) (a := (i : Int)) (b := (l.length : Int)) q1_13 q1_12 ?_)
  refine s_nil ?_
  refine then_n ?_
  refine cE_seq ?_
  rcases Bool.eq_false_or_eq_true (decide ((i : Int) < (l.length : Int))) with b5 | b5
  · have c6 : (i : Int) < (l.length : Int) := of_decide_eq_true b5
    refine cE_cond true (congrArg Value.bool b5) (fun _ => ?_) (fun h => by cases h)
    refine cE_skip ?_
    refine then_n ?_
    refine cE_seq ?_
    refine cE_block ?_
    refine cE_seq ?_
    refine cE_region rfl ?_
    refine s_cons (op_indexAddrN (E := infoE) (xs := l) i Try.underlying22 Try.sizeOf34 q1_11 h_l q1_13 (by omega) (by omega) (fun a7 o8 p9 => ?_))
    refine s_cons (op_loadN (cs := [(.int .i64 ((l[i]'(by omega)).Id)), (.int .i64 ((l[i]'(by omega)).Tier)), (.int .i64 ((l[i]'(by omega)).From)), (.int .i64 ((l[i]'(by omega)).To)), (.int .u32 ((l[i]'(by omega)).Sum))]) Try.isAgg34 Try.sizeOf34 rfl (Pt.of (p9.below hst.below) rfl) rfl ?_)
    refine s_cons (op_alloc (cs := #[(.int .i64 0), (.int .i64 0), (.int .i64 0), (.int .i64 0), (.int .u32 0)]) hst Try.zeroValue34 rfl (fun g10 w11 hst _ => ?_))
    replace hst : St w0 w11 [.blk g10 34 #[(.int .i64 0), (.int .i64 0), (.int .i64 0), (.int .i64 0), (.int .u32 0)], rowT 34 infoE vo ys] := hst
    refine s_cons0 (op_storeAll hst 0 rfl Try.sizeOf34 rfl rfl rfl rfl (by simp [Value.oneCell']) (fun w12 hst => ?_))
    replace hst : St w0 w12 [.blk g10 34 #[(.int .i64 ((l[i]'(by omega)).Id)), (.int .i64 ((l[i]'(by omega)).Tier)), (.int .i64 ((l[i]'(by omega)).From)), (.int .i64 ((l[i]'(by omega)).To)), (.int .u32 ((l[i]'(by omega)).Sum))], rowT 34 infoE vo ys] := hst
    refine s_nil ?_
    refine then_n ?_
    refine cE_seq ?_
    refine cE_seq ?_
    refine cE_region rfl ?_
    refine s_cons (op_move v_r q1_1 ?_)
    refine s_cons (op_makeFunc (evs_cons (v := (.pointer (some ⟨g10, 0, none⟩))) rfl evs_nil) ?_)
    refine s_cons (op_call Try.call17 (evs_cons (v := v_r) rfl (evs_cons (v := (.func (.func 22) #[] #[(.pointer (some ⟨g10, 0, none⟩))])) rfl evs_nil)) (c_containsB (v_l := v_r) (l := r) (h_l := h_r) (g_x := g10) (x0 := (l[i]'(by omega)).Id) (x1 := (l[i]'(by omega)).Tier) (x2 := (l[i]'(by omega)).From) (x3 := (l[i]'(by omega)).To) (x4 := (l[i]'(by omega)).Sum) (hst := hst)) ?_)
    rintro _ w13 ⟨rfl, hcall⟩
    refine ⟨_, rfl, ?_⟩
    have hst : St w0 w13 [.blk g10 34 #[(.int .i64 ((l[i]'(by omega)).Id)), (.int .i64 ((l[i]'(by omega)).Tier)), (.int .i64 ((l[i]'(by omega)).From)), (.int .i64 ((l[i]'(by omega)).To)), (.int .u32 ((l[i]'(by omega)).Sum))], rowT 34 infoE vo ys] := hcall
    refine s_nil ?_
    refine then_n ?_
    rcases Bool.eq_false_or_eq_true (r.any (fun (y : Info) => decide (y.Id = ((l[i]'(by omega)).Id)))) with b14 | b14
    · refine cE_cond true (congrArg Value.bool b14) (fun _ => ?_) (fun h => by cases h)
      refine cE_exit ?_
      refine then_x (block_hit (then_n ?_))
      refine cE_region rfl ?_
      refine s_cons (op_add (k := .i64) (a := (i : Int)) (b := 1) ((i : Int) + 1) q1_13 rfl (xi64 (by omega) (by omega)) ?_)
      refine s_cons (op_move (.int .i64 ((i : Int) + 1)) rfl ?_)
      refine s_nil ?_
      refine then_n ?_
      exact ⟨_, ⟨vo, ys, (i + 1), rfl, q1_0, q1_1, q1_4, q1_11, q1_12, q1_5, (congrArg (Value.int .i64) (show ((i : Int) + 1) = _ from by omega)), (hst.sub (.cons _ (.cons_cons _ .slnil))), (by omega), (by first | rfl | exact hI.trans (left_yes (by omega) (by assumption)).symm | (rw [hI]; exact (left_no (by omega) (by assumption)).symm))⟩, (by simp only [id]; omega)⟩
    refine cE_cond false (congrArg Value.bool b14) (fun h => by cases h) (fun _ => ?_)
    refine cE_skip ?_
    refine then_n ?_
    refine cE_region rfl ?_
    refine s_cons (op_move vo q1_5 ?_)
    refine s_cons (op_loadN (cs := [(.int .i64 ((l[i]'(by omega)).Id)), (.int .i64 ((l[i]'(by omega)).Tier)), (.int .i64 ((l[i]'(by omega)).From)), (.int .i64 ((l[i]'(by omega)).To)), (.int .u32 ((l[i]'(by omega)).Sum))]) Try.isAgg34 Try.sizeOf34 rfl (Pt.of (hst.cell 0 rfl) rfl) rfl ?_)
    refine s_cons (op_buildSlice (E := infoE) [(l[i]'(by omega))] hst Try.underlying22 Try.sizeOf34 Try.zeroValue34 (evp_cons (v := (.agg #[(.int .i64 ((l[i]'(by omega)).Id)), (.int .i64 ((l[i]'(by omega)).Tier)), (.int .i64 ((l[i]'(by omega)).From)), (.int .i64 ((l[i]'(by omega)).To)), (.int .u32 ((l[i]'(by omega)).Sum))])) rfl evp_nil) (parts_cons rfl parts_nil) rfl (by decide) (fun v15 w16 hst => ?_))
    replace hst : St w0 w16 [rowT 34 infoE v15 ([(l[i]'(by omega))]), .blk g10 34 #[(.int .i64 ((l[i]'(by omega)).Id)), (.int .i64 ((l[i]'(by omega)).Tier)), (.int .i64 ((l[i]'(by omega)).From)), (.int .i64 ((l[i]'(by omega)).To)), (.int .u32 ((l[i]'(by omega)).Sum))], rowT 34 infoE vo ys] := hst
    refine s_cons (op_append (E := infoE) (xs := ys) (ys := [(l[i]'(by omega))]) (z := (.agg #[(.int .i64 0), (.int .i64 0), (.int .i64 0), (.int .i64 0), (.int .u32 0)])) (bytes := 40) hst 2 rfl Try.underlying22 (by kernel_rfl) rfl rfl rfl (hst.sl 0 rfl) (by first | omega | (simp; omega) | (simp; done)) (by first | omega | (simp; omega) | (simp; done)) (fun v17 w18 hst => ?_))
    replace hst : St w0 w18 [rowT 34 infoE v15 ([(l[i]'(by omega))]), .blk g10 34 #[(.int .i64 ((l[i]'(by omega)).Id)), (.int .i64 ((l[i]'(by omega)).Tier)), (.int .i64 ((l[i]'(by omega)).From)), (.int .i64 ((l[i]'(by omega)).To)), (.int .u32 ((l[i]'(by omega)).Sum))], rowT 34 infoE v17 (ys ++ ([(l[i]'(by omega))]))] := hst
    refine s_cons (op_assign v17 rfl ?_)
    refine s_nil ?_
    refine block_n (then_n ?_)
    refine cE_region rfl ?_
    refine s_cons (op_add (k := .i64) (a := (i : Int)) (b := 1) ((i : Int) + 1) q1_13 rfl (xi64 (by omega) (by omega)) ?_)
    refine s_cons (op_move (.int .i64 ((i : Int) + 1)) rfl ?_)
    refine s_nil ?_
    refine then_n ?_
    exact ⟨_, ⟨v17, (ys ++ ([(l[i]'(by omega))])), (i + 1), rfl, q1_0, q1_1, q1_4, q1_11, q1_12, rfl, (congrArg (Value.int .i64) (show ((i : Int) + 1) = _ from by omega)), (hst.sub (.cons _ (.cons _ (.cons_cons _ .slnil)))), (by omega), (by first | rfl | exact hI.trans (left_yes (by omega) (by assumption)).symm | (rw [hI]; exact (left_no (by omega) (by assumption)).symm))⟩, (by simp only [id]; omega)⟩
  have c19 : ¬ ((i : Int) < (l.length : Int)) := of_decide_eq_false b5
  refine cE_cond false (congrArg Value.bool b5) (fun h => by cases h) (fun _ => ?_)
  refine cE_exit ?_
  refine then_x (then_x (block_hit (then_n ?_)))
  refine cE_seq ?_
  refine cE_region rfl ?_
  refine s_cons (op_move vo q1_5 ?_)
  refine s_cons (op_call Try.call23 (evs_cons (v := vo) rfl (evs_cons (v := (.func (.func 24) #[] #[])) rfl evs_nil)) (c_sortStable (v_xs := vo) (xs := ys) (hxl := (by omega)) (hst := hst)) ?_)
  rintro _ w23 ⟨r20, rfl, hcall, x21, x22⟩
  refine ⟨_, rfl, ?_⟩
  have hst : St w0 w23 [rowT 34 infoE vo r20] := hcall
  refine s_nil ?_
  refine then_n ?_
  refine cE_seq ?_
  have hyA : ys = left l r := hI.trans (by rw [List.take_of_length_le (by omega)])
  have hql := List.Perm.length_eq (by assumption : List.Perm _ ys)
  refine cE_region rfl ?_
  refine s_cons (op_assign (.slice none 0 0) rfl ?_)
  refine s_nil ?_
  refine then_n ?_
  refine cE_seq ?_
  refine cE_seq ?_
  refine cE_region rfl ?_
  refine s_cons (op_move vo q1_5 ?_)
  refine s_cons (op_len (E := infoE) (xs := r20) Try.underlying22 rfl (hst.sl 0 rfl) ?_)
  refine s_cons (op_move (.int .i64 0) rfl ?_)
  refine s_nil ?_
  refine then_n ?_
  refine cE_block ?_
  replace hst : St w0 w23 [rowT 3 (intE .i64) (.slice none 0 0) ([]), rowT 34 infoE vo r20] := hst.nilRow 3 (intE .i64)
  refine cE_loop (fun (m : Nat) (ρ : Env) (w : World) => ∃ (vu : Value) (j : Nat), m = r20.length - j ∧ ρ 0 = v_l ∧ ρ 1 = v_r ∧ ρ 4 = (.slice none 0 0) ∧ ρ 11 = v_l ∧ ρ 12 = (.int .i64 (l.length : Int)) ∧ ρ 5 = vo ∧ ρ 13 = (.int .i64 (i : Int)) ∧ ρ 27 = vo ∧ ρ 28 = (.int .i64 (r20.length : Int)) ∧ ρ 8 = vu ∧ ρ 29 = (.int .i64 (j : Int)) ∧ St w0 w [rowT 3 (intE .i64) vu ((r20.take j).map Info.Id), rowT 34 infoE vo r20] ∧ (j ≤ r20.length)) id _ ⟨(.slice none 0 0), 0, rfl, q1_0, q1_1, q1_4, q1_11, q1_12, q1_5, q1_13, rfl, rfl, rfl, (congrArg (Value.int .i64) (show 0 = _ from by omega)), (by have h := hst; first | exact h | (refine (?_ : St _ _ _); simpa using h)), (by omega)⟩ ?_
  rintro m25 ρ26 w27 ⟨vu, j, hm25, q24_0, q24_1, q24_4, q24_11, q24_12, q24_5, q24_13, q24_27, q24_28, q24_8, q24_29, hst, hj⟩
  refine cE_seq ?_
  refine cE_region rfl ?_
  refine s_cons (op_lss (k := .i64) (a := (j : Int)) (b := (r20.length : Int)) q24_29 q24_28 ?_)
  refine s_nil ?_
  refine then_n ?_
  refine cE_seq ?_
  rcases Bool.eq_false_or_eq_true (decide ((j : Int) < (r20.length : Int))) with b28 | b28
  · have c29 : (j : Int) < (r20.length : Int) := of_decide_eq_true b28
    refine cE_cond true (congrArg Value.bool b28) (fun _ => ?_) (fun h => by cases h)
    refine cE_skip ?_
    refine then_n ?_
    refine cE_seq ?_
    refine cE_block ?_
    refine cE_seq ?_
    refine cE_region rfl ?_
    refine s_cons (op_indexAddrN (E := infoE) (xs := r20) j Try.underlying22 Try.sizeOf34 q24_27 (hst.sl 1 rfl) q24_29 (by omega) (by omega) (fun a30 o31 p32 => ?_))
    refine s_cons (op_loadN (cs := [(.int .i64 ((r20[j]'(by omega)).Id)), (.int .i64 ((r20[j]'(by omega)).Tier)), (.int .i64 ((r20[j]'(by omega)).From)), (.int .i64 ((r20[j]'(by omega)).To)), (.int .u32 ((r20[j]'(by omega)).Sum))]) Try.isAgg34 Try.sizeOf34 rfl (Pt.of p32 rfl) rfl ?_)
    refine s_cons (op_alloc (cs := #[(.int .i64 0), (.int .i64 0), (.int .i64 0), (.int .i64 0), (.int .u32 0)]) hst Try.zeroValue34 rfl (fun g33 w34 hst _ => ?_))
    replace hst : St w0 w34 [.blk g33 34 #[(.int .i64 0), (.int .i64 0), (.int .i64 0), (.int .i64 0), (.int .u32 0)], rowT 3 (intE .i64) vu ((r20.take j).map Info.Id), rowT 34 infoE vo r20] := hst
    refine s_cons0 (op_storeAll hst 0 rfl Try.sizeOf34 rfl rfl rfl rfl (by simp [Value.oneCell']) (fun w35 hst => ?_))
    replace hst : St w0 w35 [.blk g33 34 #[(.int .i64 ((r20[j]'(by omega)).Id)), (.int .i64 ((r20[j]'(by omega)).Tier)), (.int .i64 ((r20[j]'(by omega)).From)), (.int .i64 ((r20[j]'(by omega)).To)), (.int .u32 ((r20[j]'(by omega)).Sum))], rowT 3 (intE .i64) vu ((r20.take j).map Info.Id), rowT 34 infoE vo r20] := hst
    refine s_nil ?_
    refine then_n ?_
    refine cE_region rfl ?_
    refine s_cons (op_move vu q24_8 ?_)
    refine s_cons (op_fieldAddr (s := 0) Try.underlying34 rfl rfl Try.sizeOf3 rfl ?_)
    refine s_cons (op_load1 (u := (.int .i64 ((r20[j]'(by omega)).Id))) Try.isAgg3 rfl (hst.cell 0 rfl) ?_)
    refine s_cons (op_buildSlice (E := (intE .i64)) [(r20[j]'(by omega)).Id] hst Try.underlying24 Try.sizeOf3 Try.zeroValue3 (evp_cons (v := (.int .i64 ((r20[j]'(by omega)).Id))) rfl evp_nil) (parts_cons rfl parts_nil) rfl (by decide) (fun v36 w37 hst => ?_))
    replace hst : St w0 w37 [rowT 3 (intE .i64) v36 ([(r20[j]'(by omega)).Id]), .blk g33 34 #[(.int .i64 ((r20[j]'(by omega)).Id)), (.int .i64 ((r20[j]'(by omega)).Tier)), (.int .i64 ((r20[j]'(by omega)).From)), (.int .i64 ((r20[j]'(by omega)).To)), (.int .u32 ((r20[j]'(by omega)).Sum))], rowT 3 (intE .i64) vu ((r20.take j).map Info.Id), rowT 34 infoE vo r20] := hst
    refine s_cons (op_append (E := (intE .i64)) (xs := ((r20.take j).map Info.Id)) (ys := [(r20[j]'(by omega)).Id]) (z := (.int .i64 0)) (bytes := 8) hst 2 rfl Try.underlying24 (by kernel_rfl) rfl rfl rfl (hst.sl 0 rfl) (by first | omega | (simp; omega) | (simp; done)) (by first | omega | (simp; omega) | (simp; done)) (fun v38 w39 hst => ?_))
    replace hst : St w0 w39 [rowT 3 (intE .i64) v36 ([(r20[j]'(by omega)).Id]), .blk g33 34 #[(.int .i64 ((r20[j]'(by omega)).Id)), (.int .i64 ((r20[j]'(by omega)).Tier)), (.int .i64 ((r20[j]'(by omega)).From)), (.int .i64 ((r20[j]'(by omega)).To)), (.int .u32 ((r20[j]'(by omega)).Sum))], rowT 3 (intE .i64) v38 ((r20.take (j + 1)).map Info.Id), rowT 34 infoE vo r20] := by rw [show (((r20.take j).map Info.Id) ++ ([(r20[j]'(by omega)).Id])) = ((r20.take (j + 1)).map Info.Id) from (ids_snoc (by omega)).symm] at hst; exact hst
    refine s_cons (op_assign v38 rfl ?_)
    refine s_nil ?_
    refine block_n (then_n ?_)
    refine cE_region rfl ?_
    refine s_cons (op_add (k := .i64) (a := (j : Int)) (b := 1) ((j : Int) + 1) q24_29 rfl (xi64 (by omega) (by omega)) ?_)
    refine s_cons (op_move (.int .i64 ((j : Int) + 1)) rfl ?_)
    refine s_nil ?_
    refine then_n ?_
    exact ⟨_, ⟨v38, (j + 1), rfl, q24_0, q24_1, q24_4, q24_11, q24_12, q24_5, q24_13, q24_27, q24_28, rfl, (congrArg (Value.int .i64) (show ((j : Int) + 1) = _ from by omega)), (hst.sub (.cons _ (.cons _ (.cons_cons _ (.cons_cons _ .slnil))))), (by omega)⟩, (by simp only [id]; omega)⟩
  have c40 : ¬ ((j : Int) < (r20.length : Int)) := of_decide_eq_false b28
  refine cE_cond false (congrArg Value.bool b28) (fun h => by cases h) (fun _ => ?_)
  refine cE_exit ?_
  refine then_x (then_x (block_hit (then_n ?_)))
  refine cE_seq ?_
  refine cE_region rfl ?_
  refine s_cons (op_move vu q24_8 ?_)
  refine s_cons (op_assign vu rfl ?_)
  refine s_nil ?_
  refine then_n ?_
  refine cE_ret ?_
  refine scope_r ?_
  refine post_r _ (res1 (v := vu) rfl) ?_
  have e41 : ((r20.take j).map Info.Id) = (bodies l r) := by exact bodies_all2 hyA (by assumption) (by assumption) (by omega)
  replace hst : St w0 w27 [rowT 3 (intE .i64) vu (bodies l r), rowT 34 infoE vo r20] := by rw [congrArg (fun l => rowT 3 (intE .i64) vu l) e41] at hst; exact hst
  exact ⟨vu, rfl, hst.sub (.cons_cons _ (.cons _ .slnil))⟩

end Go.Proofs.Ytadnedoecbfojaa
