/- the law FoldOrder -/
import Derived.Test.YtffnhcioponbbaaW2
import Derived.Test.YtffnhcioponbbaaG
namespace Go.Proofs.Ytffnhcioponbbaa
open Go.RowKit

theorem c_FoldOrder (w0 : World) (v_l : Value) (l : List Sample) (h_l : Sl w0 sampE v_l l) (hl : ∀ s ∈ l, s.ok) :
    Calls Try.prog 7 #[v_l] w0 fun e w' => e = .returned (.bool true) ∧ St w0 w' [] := by
  refine calls_E (n := 103) (ts := [2]) Try.func7 rfl rfl rfl (by simp) ?_
  have hst := St.start w0
  refine cE_seq ?_
  refine cE_region rfl ?_
  refine s_cons (op_assign (.bool false) rfl ?_)
  refine s_nil ?_
  refine then_n ?_
  refine cE_seq ?_
  refine cE_seq ?_
  refine cE_region rfl ?_
  refine s_cons (op_move v_l rfl ?_)
  refine s_cons (op_len (E := sampE) (xs := l) Try.underlying22 rfl h_l ?_)
  refine s_cons (op_lss (k := .i64) (a := (l.length : Int)) (b := 1) rfl rfl ?_)
  refine s_cons (op_move (.bool (decide ((l.length : Int) < 1))) rfl ?_)
  rcases Bool.eq_false_or_eq_true (decide ((l.length : Int) < 1)) with b1 | b1
  · have c2 : (l.length : Int) < 1 := of_decide_eq_true b1
    refine s_no 14 rfl (congrArg Value.bool b1) ?_
    refine s_no 14 rfl (congrArg Value.bool b1) ?_
    refine s_no 14 rfl (congrArg Value.bool b1) ?_
    refine s_cons (op_pick_t (.bool true) (congrArg Value.bool b1) rfl ?_)
    refine s_nil ?_
    refine then_n ?_
    refine cE_cond true rfl (fun _ => ?_) (fun h => by cases h)
    refine cE_seq ?_
    refine cE_region rfl ?_
    refine s_cons (op_call Try.call14 evs_nil (c_told3 (w0 := w0)) ?_)
    rintro _ w3 ⟨rfl, hcall⟩
    refine ⟨_, rfl, ?_⟩
    have hst : St w0 w3 [] := hst.call hcall
    refine s_cons (op_assign (.bool true) rfl ?_)
    refine s_nil ?_
    refine then_n ?_
    refine cE_ret ?_
    refine then_r ?_
    refine post_r _ (res1 (v := (.bool true)) rfl) ?_
    exact ⟨rfl, hst.bare⟩
  · have c4 : ¬ ((l.length : Int) < 1) := of_decide_eq_false b1
    refine s_yes 14 rfl (congrArg Value.bool b1) (op_move v_l rfl ?_)
    refine s_yes 14 rfl (congrArg Value.bool b1) (op_len (E := sampE) (xs := l) Try.underlying22 rfl h_l ?_)
    refine s_yes 14 rfl (congrArg Value.bool b1) (op_gtr (k := .i64) (a := (l.length : Int)) (b := 40) rfl rfl ?_)
    refine s_cons (op_pick_f (.bool (decide (40 < (l.length : Int)))) (congrArg Value.bool b1) rfl ?_)
    refine s_nil ?_
    refine then_n ?_
    rcases Bool.eq_false_or_eq_true (decide (40 < (l.length : Int))) with b5 | b5
    · have c6 : 40 < (l.length : Int) := of_decide_eq_true b5
      refine cE_cond true (congrArg Value.bool b5) (fun _ => ?_) (fun h => by cases h)
      refine cE_seq ?_
      refine cE_region rfl ?_
      refine s_cons (op_call Try.call14 evs_nil (c_told3 (w0 := w0)) ?_)
      rintro _ w7 ⟨rfl, hcall⟩
      refine ⟨_, rfl, ?_⟩
      have hst : St w0 w7 [] := hst.call hcall
      refine s_cons (op_assign (.bool true) rfl ?_)
      refine s_nil ?_
      refine then_n ?_
      refine cE_ret ?_
      refine then_r ?_
      refine post_r _ (res1 (v := (.bool true)) rfl) ?_
      exact ⟨rfl, hst.bare⟩
    · have c8 : ¬ (40 < (l.length : Int)) := of_decide_eq_false b5
      refine cE_cond false (congrArg Value.bool b5) (fun h => by cases h) (fun _ => ?_)
      refine cE_skip ?_
      refine then_n ?_
      refine cE_seq ?_
      refine cE_region rfl ?_
      refine s_cons (op_assign (.slice none 0 0) rfl ?_)
      refine s_cons (op_assign (.slice none 0 0) rfl ?_)
      refine s_nil ?_
      refine then_n ?_
      refine cE_seq ?_
      refine cE_seq ?_
      refine cE_region rfl ?_
      refine s_cons (op_assign (.int .i64 0) rfl ?_)
      refine s_nil ?_
      refine then_n ?_
      refine cE_block ?_
      replace hst : St w0 w0 [rowT 32 sampE (.slice none 0 0) ([])] := hst.nilRow 32 sampE
      replace hst : St w0 w0 [rowT 32 sampE (.slice none 0 0) ([]), rowT 32 sampE (.slice none 0 0) ([])] := hst.nilRow 32 sampE
      refine cE_loop (fun (m : Nat) (ρ : Env) (w : World) => ∃ (va : Value) (vb : Value) (i : Nat), m = l.length - i ∧ ρ 0 = v_l ∧ ρ 2 = (.bool false) ∧ ρ 11 = v_l ∧ ρ 12 = (.int .i64 (l.length : Int)) ∧ ρ 13 = (.bool (decide ((l.length : Int) < 1))) ∧ ρ 14 = (.bool (decide ((l.length : Int) < 1))) ∧ ρ 15 = v_l ∧ ρ 16 = (.int .i64 (l.length : Int)) ∧ ρ 17 = (.bool (decide (40 < (l.length : Int)))) ∧ ρ 18 = (.bool (decide (40 < (l.length : Int)))) ∧ ρ 5 = (.int .i64 (i : Int)) ∧ ρ 3 = va ∧ ρ 4 = vb ∧ St w0 w [rowT 32 sampE vb (((l.take i).map modS).reverse), rowT 32 sampE va ((l.take i).map modS)] ∧ i ≤ l.length) id _ ⟨(.slice none 0 0), (.slice none 0 0), 0, rfl, rfl, rfl, rfl, rfl, rfl, rfl, rfl, rfl, rfl, rfl, (congrArg (Value.int .i64) (show 0 = _ from by omega)), rfl, rfl, (by have h := hst; first | exact h | (refine (?_ : St _ _ _); simpa using h)), (by omega)⟩ ?_
      rintro m10 ρ11 w12 ⟨va, vb, i, hm10, q9_0, q9_2, q9_11, q9_12, q9_13, q9_14, q9_15, q9_16, q9_17, q9_18, q9_5, q9_3, q9_4, hst, hi⟩
      refine cE_seq ?_
      refine cE_seq ?_
      refine cE_region rfl ?_
      refine s_cons (op_move (.int .i64 (i : Int)) q9_5 ?_)
      refine s_cons (op_move v_l q9_0 ?_)
      refine s_cons (op_len (E := sampE) (xs := l) Try.underlying22 rfl h_l ?_)
      refine s_cons (op_lss (k := .i64) (a := (i : Int)) (b := (l.length : Int)) rfl rfl ?_)
      refine s_nil ?_
      refine then_n ?_
      rcases Bool.eq_false_or_eq_true (decide ((i : Int) < (l.length : Int))) with b13 | b13
      · have c14 : (i : Int) < (l.length : Int) := of_decide_eq_true b13
        refine cE_cond true (congrArg Value.bool b13) (fun _ => ?_) (fun h => by cases h)
        refine cE_skip ?_
        refine then_n ?_
        refine cE_seq ?_
        refine cE_block ?_
        refine cE_seq ?_
        refine cE_region rfl ?_
        refine s_cons (op_move v_l q9_0 ?_)
        refine s_cons (op_move (.int .i64 (i : Int)) q9_5 ?_)
        refine s_cons (op_indexAddrN (E := sampE) (xs := l) i Try.underlying22 Try.sizeOf32 rfl h_l rfl (by omega) (by omega) (fun a15 o16 p17 => ?_))
        refine s_cons (op_loadN (cs := [(.int .i64 ((l[i]'(by omega)).T)), (.int .i64 ((l[i]'(by omega)).V))]) Try.isAgg32 Try.sizeOf32 rfl (Pt.of (p17.below hst.below) rfl) rfl ?_)
        refine s_cons (op_alloc (cs := #[(.int .i64 0), (.int .i64 0)]) hst Try.zeroValue32 rfl (fun g18 w19 hst _ => ?_))
        replace hst : St w0 w19 [.blk g18 32 #[(.int .i64 0), (.int .i64 0)], rowT 32 sampE vb (((l.take i).map modS).reverse), rowT 32 sampE va ((l.take i).map modS)] := hst
        refine s_cons0 (op_storeAll hst 0 rfl Try.sizeOf32 rfl rfl rfl rfl (by simp [Value.oneCell']) (fun w20 hst => ?_))
        replace hst : St w0 w20 [.blk g18 32 #[(.int .i64 ((l[i]'(by omega)).T)), (.int .i64 ((l[i]'(by omega)).V))], rowT 32 sampE vb (((l.take i).map modS).reverse), rowT 32 sampE va ((l.take i).map modS)] := hst
        refine s_nil ?_
        refine then_n ?_
        refine cE_seq ?_
        refine cE_region rfl ?_
        refine s_cons (op_fieldAddr (s := 0) Try.underlying32 rfl rfl Try.sizeOf2 rfl ?_)
        refine s_cons (op_load1 (u := (.int .i64 ((l[i]'(by omega)).V))) Try.isAgg2 rfl ((hst.cell 0 rfl).drop 1) ?_)
        refine s_cons (op_rem (k := .i64) (a := (l[i]'(by omega)).V) (b := 1000000000) (Int.tmod (l[i]'(by omega)).V 1000000000) rfl rfl (by omega) rfl ?_)
        refine s_cons (op_fieldAddr (s := 0) Try.underlying32 rfl rfl Try.sizeOf2 rfl ?_)
        refine s_cons0 (op_store1 hst 0 rfl Try.sizeOf2 rfl rfl rfl (show 1 < 2 from by decide) (fun w21 hst => ?_))
        replace hst : St w0 w21 [.blk g18 32 #[(.int .i64 ((l[i]'(by omega)).T)), (.int .i64 (Int.tmod (l[i]'(by omega)).V 1000000000))], rowT 32 sampE vb (((l.take i).map modS).reverse), rowT 32 sampE va ((l.take i).map modS)] := hst
        refine s_nil ?_
        refine then_n ?_
        refine cE_seq ?_
        refine cE_region rfl ?_
        refine s_cons (op_move va q9_3 ?_)
        refine s_cons (op_loadN (cs := [(.int .i64 ((l[i]'(by omega)).T)), (.int .i64 (Int.tmod (l[i]'(by omega)).V 1000000000))]) Try.isAgg32 Try.sizeOf32 rfl (Pt.of (hst.cell 0 rfl) rfl) rfl ?_)
        refine s_cons (op_buildSlice (E := sampE) [(⟨(l[i]'(by omega)).T, (Int.tmod (l[i]'(by omega)).V 1000000000)⟩ : Sample)] hst Try.underlying22 Try.sizeOf32 Try.zeroValue32 (evp_cons (v := (.agg #[(.int .i64 ((l[i]'(by omega)).T)), (.int .i64 (Int.tmod (l[i]'(by omega)).V 1000000000))])) rfl evp_nil) (parts_cons rfl parts_nil) rfl (by decide) (fun v22 w23 hst => ?_))
        replace hst : St w0 w23 [rowT 32 sampE v22 ([(⟨(l[i]'(by omega)).T, (Int.tmod (l[i]'(by omega)).V 1000000000)⟩ : Sample)]), .blk g18 32 #[(.int .i64 ((l[i]'(by omega)).T)), (.int .i64 (Int.tmod (l[i]'(by omega)).V 1000000000))], rowT 32 sampE vb (((l.take i).map modS).reverse), rowT 32 sampE va ((l.take i).map modS)] := hst
        refine s_cons (op_append (E := sampE) (xs := ((l.take i).map modS)) (ys := [(⟨(l[i]'(by omega)).T, (Int.tmod (l[i]'(by omega)).V 1000000000)⟩ : Sample)]) (z := (.agg #[(.int .i64 0), (.int .i64 0)])) (bytes := 16) hst 3 rfl Try.underlying22 (by kernel_rfl) rfl rfl rfl (hst.sl 0 rfl) (by first | omega | (simp only [List.length_append, List.length_cons, List.length_nil, List.length_take, List.length_drop, List.length_set, List.length_map, List.length_reverse]; omega)) (by first | omega | (simp only [List.length_append, List.length_cons, List.length_nil, List.length_take, List.length_drop, List.length_set, List.length_map, List.length_reverse]; omega)) (fun v24 w25 hst => ?_))
        replace hst : St w0 w25 [rowT 32 sampE v22 ([(⟨(l[i]'(by omega)).T, (Int.tmod (l[i]'(by omega)).V 1000000000)⟩ : Sample)]), .blk g18 32 #[(.int .i64 ((l[i]'(by omega)).T)), (.int .i64 (Int.tmod (l[i]'(by omega)).V 1000000000))], rowT 32 sampE vb (((l.take i).map modS).reverse), rowT 32 sampE v24 ((l.take (i + 1)).map modS)] := by rw [map_snoc l i (by omega)] at hst; exact hst
        refine s_cons (op_assign v24 rfl ?_)
        refine s_nil ?_
        refine then_n ?_
        refine cE_region rfl ?_
        refine s_cons (op_loadN (cs := [(.int .i64 ((l[i]'(by omega)).T)), (.int .i64 (Int.tmod (l[i]'(by omega)).V 1000000000))]) Try.isAgg32 Try.sizeOf32 rfl (Pt.of (hst.cell 1 rfl) rfl) rfl ?_)
        refine s_cons (op_buildSlice (E := sampE) [(⟨(l[i]'(by omega)).T, (Int.tmod (l[i]'(by omega)).V 1000000000)⟩ : Sample)] hst Try.underlying22 Try.sizeOf32 Try.zeroValue32 (evp_cons (v := (.agg #[(.int .i64 ((l[i]'(by omega)).T)), (.int .i64 (Int.tmod (l[i]'(by omega)).V 1000000000))])) rfl evp_nil) (parts_cons rfl parts_nil) rfl (by decide) (fun v26 w27 hst => ?_))
        replace hst : St w0 w27 [rowT 32 sampE v26 ([(⟨(l[i]'(by omega)).T, (Int.tmod (l[i]'(by omega)).V 1000000000)⟩ : Sample)]), rowT 32 sampE v22 ([(⟨(l[i]'(by omega)).T, (Int.tmod (l[i]'(by omega)).V 1000000000)⟩ : Sample)]), .blk g18 32 #[(.int .i64 ((l[i]'(by omega)).T)), (.int .i64 (Int.tmod (l[i]'(by omega)).V 1000000000))], rowT 32 sampE vb (((l.take i).map modS).reverse), rowT 32 sampE v24 ((l.take (i + 1)).map modS)] := hst
        refine s_cons (op_move vb q9_4 ?_)
        refine s_cons (op_append (E := sampE) (xs := [(⟨(l[i]'(by omega)).T, (Int.tmod (l[i]'(by omega)).V 1000000000)⟩ : Sample)]) (ys := (((l.take i).map modS).reverse)) (z := (.agg #[(.int .i64 0), (.int .i64 0)])) (bytes := 16) hst 0 rfl Try.underlying22 (by kernel_rfl) rfl rfl rfl (hst.sl 3 rfl) (by first | omega | (simp only [List.length_append, List.length_cons, List.length_nil, List.length_take, List.length_drop, List.length_set, List.length_map, List.length_reverse]; omega)) (by first | omega | (simp only [List.length_append, List.length_cons, List.length_nil, List.length_take, List.length_drop, List.length_set, List.length_map, List.length_reverse]; omega)) (fun v28 w29 hst => ?_))
        replace hst : St w0 w29 [rowT 32 sampE v28 (((l.take (i + 1)).map modS).reverse), rowT 32 sampE v22 ([(⟨(l[i]'(by omega)).T, (Int.tmod (l[i]'(by omega)).V 1000000000)⟩ : Sample)]), .blk g18 32 #[(.int .i64 ((l[i]'(by omega)).T)), (.int .i64 (Int.tmod (l[i]'(by omega)).V 1000000000))], rowT 32 sampE vb (((l.take i).map modS).reverse), rowT 32 sampE v24 ((l.take (i + 1)).map modS)] := by rw [map_cons l i (by omega)] at hst; exact hst
        refine s_cons (op_assign v28 rfl ?_)
        refine s_nil ?_
        refine block_n (then_n ?_)
        refine cE_region rfl ?_
        refine s_cons (op_move (.int .i64 (i : Int)) q9_5 ?_)
        refine s_cons (op_add (k := .i64) (a := (i : Int)) (b := 1) ((i : Int) + 1) rfl rfl (xi64 (by omega) (by omega)) ?_)
        refine s_cons (op_assign (.int .i64 ((i : Int) + 1)) rfl ?_)
        refine s_nil ?_
        refine then_n ?_
        exact ⟨_, ⟨v24, v28, (i + 1), rfl, q9_0, q9_2, q9_11, q9_12, q9_13, q9_14, q9_15, q9_16, q9_17, q9_18, (congrArg (Value.int .i64) (show ((i : Int) + 1) = _ from by omega)), rfl, rfl, (hst.sub (.cons_cons _ (.cons _ (.cons _ (.cons _ (.cons_cons _ .slnil)))))), (by omega)⟩, (by simp only [id]; omega)⟩
      · have c30 : ¬ ((i : Int) < (l.length : Int)) := of_decide_eq_false b13
        refine cE_cond false (congrArg Value.bool b13) (fun h => by cases h) (fun _ => ?_)
        refine cE_exit ?_
        refine then_x (then_x (block_hit (then_n ?_)))
        refine cE_seq ?_
        have hx := order_all (L := (l.take i).map modS) (by simp only [List.length_reverse, List.length_map, List.length_take]; omega) (by simp only [List.length_reverse, List.length_map, List.length_take]; omega) (mods_small (l.take i))
        refine cE_region rfl ?_
        refine s_cons (op_move va q9_3 ?_)
        refine s_cons (op_call Try.call15 (evs_cons (v := va) rfl (evs_cons (v := (.int .i64 0)) rfl evs_nil)) (c_All (w0 := w12) (v_l := va) (l := ((l.take i).map modS)) (h_l := (hst.sl 1 rfl)) (fr := 0) (hl := (by first | exact mods_ok hl i | exact fun s h => mods_ok hl i s (List.mem_reverse.1 h))) (fr0 := (by omega)) (fr1 := (by omega)) (hn := (by simp only [List.length_reverse, List.length_map, List.length_take]; omega))) ?_)
        rintro _ w31 ⟨rfl, hcall⟩
        refine ⟨_, rfl, ?_⟩
        have hst : St w0 w31 [rowT 32 sampE vb (((l.take i).map modS).reverse), rowT 32 sampE va ((l.take i).map modS)] := hst.call hcall
        refine s_cons (op_move (.tuple #[(.agg #[(.int .i64 (((allA ((l.take i).map modS) 0).1).From)), (.int .i64 (((allA ((l.take i).map modS) 0).1).Count)), (.int .i64 (((allA ((l.take i).map modS) 0).1).Sum)), (.int .i64 (((allA ((l.take i).map modS) 0).1).Min)), (.int .i64 (((allA ((l.take i).map modS) 0).1).Max)), (.int .i64 (((allA ((l.take i).map modS) 0).1).First)), (.int .i64 (((allA ((l.take i).map modS) 0).1).Last))]), (.int .i64 ((allA ((l.take i).map modS) 0).2))]) rfl ?_)
        refine s_cons (op_extract (.agg #[(.int .i64 (((allA ((l.take i).map modS) 0).1).From)), (.int .i64 (((allA ((l.take i).map modS) 0).1).Count)), (.int .i64 (((allA ((l.take i).map modS) 0).1).Sum)), (.int .i64 (((allA ((l.take i).map modS) 0).1).Min)), (.int .i64 (((allA ((l.take i).map modS) 0).1).Max)), (.int .i64 (((allA ((l.take i).map modS) 0).1).First)), (.int .i64 (((allA ((l.take i).map modS) 0).1).Last))]) rfl rfl ?_)
        refine s_cons (op_extract (.int .i64 ((allA ((l.take i).map modS) 0).2)) rfl rfl ?_)
        refine s_cons (op_alloc (cs := #[(.int .i64 0), (.int .i64 0), (.int .i64 0), (.int .i64 0), (.int .i64 0), (.int .i64 0), (.int .i64 0)]) hst Try.zeroValue26 rfl (fun g32 w33 hst _ => ?_))
        replace hst : St w0 w33 [.blk g32 26 #[(.int .i64 0), (.int .i64 0), (.int .i64 0), (.int .i64 0), (.int .i64 0), (.int .i64 0), (.int .i64 0)], rowT 32 sampE vb (((l.take i).map modS).reverse), rowT 32 sampE va ((l.take i).map modS)] := hst
        refine s_cons0 (op_storeAll hst 0 rfl Try.sizeOf26 rfl rfl rfl rfl (by simp [Value.oneCell']) (fun w34 hst => ?_))
        replace hst : St w0 w34 [.blk g32 26 #[(.int .i64 (((allA ((l.take i).map modS) 0).1).From)), (.int .i64 (((allA ((l.take i).map modS) 0).1).Count)), (.int .i64 (((allA ((l.take i).map modS) 0).1).Sum)), (.int .i64 (((allA ((l.take i).map modS) 0).1).Min)), (.int .i64 (((allA ((l.take i).map modS) 0).1).Max)), (.int .i64 (((allA ((l.take i).map modS) 0).1).First)), (.int .i64 (((allA ((l.take i).map modS) 0).1).Last))], rowT 32 sampE vb (((l.take i).map modS).reverse), rowT 32 sampE va ((l.take i).map modS)] := hst
        refine s_cons (op_assign (.int .i64 ((allA ((l.take i).map modS) 0).2)) rfl ?_)
        refine s_nil ?_
        refine then_n ?_
        refine cE_seq ?_
        refine cE_region rfl ?_
        refine s_cons (op_move vb q9_4 ?_)
        refine s_cons (op_call Try.call15 (evs_cons (v := vb) rfl (evs_cons (v := (.int .i64 0)) rfl evs_nil)) (c_All (w0 := w34) (v_l := vb) (l := (((l.take i).map modS).reverse)) (h_l := (hst.sl 1 rfl)) (fr := 0) (hl := (by first | exact mods_ok hl i | exact fun s h => mods_ok hl i s (List.mem_reverse.1 h))) (fr0 := (by omega)) (fr1 := (by omega)) (hn := (by simp only [List.length_reverse, List.length_map, List.length_take]; omega))) ?_)
        rintro _ w35 ⟨rfl, hcall⟩
        refine ⟨_, rfl, ?_⟩
        have hst : St w0 w35 [.blk g32 26 #[(.int .i64 (((allA ((l.take i).map modS) 0).1).From)), (.int .i64 (((allA ((l.take i).map modS) 0).1).Count)), (.int .i64 (((allA ((l.take i).map modS) 0).1).Sum)), (.int .i64 (((allA ((l.take i).map modS) 0).1).Min)), (.int .i64 (((allA ((l.take i).map modS) 0).1).Max)), (.int .i64 (((allA ((l.take i).map modS) 0).1).First)), (.int .i64 (((allA ((l.take i).map modS) 0).1).Last))], rowT 32 sampE vb (((l.take i).map modS).reverse), rowT 32 sampE va ((l.take i).map modS)] := hst.call hcall
        refine s_cons (op_move (.tuple #[(.agg #[(.int .i64 (((allA (((l.take i).map modS).reverse) 0).1).From)), (.int .i64 (((allA (((l.take i).map modS).reverse) 0).1).Count)), (.int .i64 (((allA (((l.take i).map modS).reverse) 0).1).Sum)), (.int .i64 (((allA (((l.take i).map modS).reverse) 0).1).Min)), (.int .i64 (((allA (((l.take i).map modS).reverse) 0).1).Max)), (.int .i64 (((allA (((l.take i).map modS).reverse) 0).1).First)), (.int .i64 (((allA (((l.take i).map modS).reverse) 0).1).Last))]), (.int .i64 ((allA (((l.take i).map modS).reverse) 0).2))]) rfl ?_)
        refine s_cons (op_extract (.agg #[(.int .i64 (((allA (((l.take i).map modS).reverse) 0).1).From)), (.int .i64 (((allA (((l.take i).map modS).reverse) 0).1).Count)), (.int .i64 (((allA (((l.take i).map modS).reverse) 0).1).Sum)), (.int .i64 (((allA (((l.take i).map modS).reverse) 0).1).Min)), (.int .i64 (((allA (((l.take i).map modS).reverse) 0).1).Max)), (.int .i64 (((allA (((l.take i).map modS).reverse) 0).1).First)), (.int .i64 (((allA (((l.take i).map modS).reverse) 0).1).Last))]) rfl rfl ?_)
        refine s_cons (op_extract (.int .i64 ((allA (((l.take i).map modS).reverse) 0).2)) rfl rfl ?_)
        refine s_cons (op_alloc (cs := #[(.int .i64 0), (.int .i64 0), (.int .i64 0), (.int .i64 0), (.int .i64 0), (.int .i64 0), (.int .i64 0)]) hst Try.zeroValue26 rfl (fun g36 w37 hst _ => ?_))
        replace hst : St w0 w37 [.blk g36 26 #[(.int .i64 0), (.int .i64 0), (.int .i64 0), (.int .i64 0), (.int .i64 0), (.int .i64 0), (.int .i64 0)], .blk g32 26 #[(.int .i64 (((allA ((l.take i).map modS) 0).1).From)), (.int .i64 (((allA ((l.take i).map modS) 0).1).Count)), (.int .i64 (((allA ((l.take i).map modS) 0).1).Sum)), (.int .i64 (((allA ((l.take i).map modS) 0).1).Min)), (.int .i64 (((allA ((l.take i).map modS) 0).1).Max)), (.int .i64 (((allA ((l.take i).map modS) 0).1).First)), (.int .i64 (((allA ((l.take i).map modS) 0).1).Last))], rowT 32 sampE vb (((l.take i).map modS).reverse), rowT 32 sampE va ((l.take i).map modS)] := hst
        refine s_cons0 (op_storeAll hst 0 rfl Try.sizeOf26 rfl rfl rfl rfl (by simp [Value.oneCell']) (fun w38 hst => ?_))
        replace hst : St w0 w38 [.blk g36 26 #[(.int .i64 (((allA (((l.take i).map modS).reverse) 0).1).From)), (.int .i64 (((allA (((l.take i).map modS).reverse) 0).1).Count)), (.int .i64 (((allA (((l.take i).map modS).reverse) 0).1).Sum)), (.int .i64 (((allA (((l.take i).map modS).reverse) 0).1).Min)), (.int .i64 (((allA (((l.take i).map modS).reverse) 0).1).Max)), (.int .i64 (((allA (((l.take i).map modS).reverse) 0).1).First)), (.int .i64 (((allA (((l.take i).map modS).reverse) 0).1).Last))], .blk g32 26 #[(.int .i64 (((allA ((l.take i).map modS) 0).1).From)), (.int .i64 (((allA ((l.take i).map modS) 0).1).Count)), (.int .i64 (((allA ((l.take i).map modS) 0).1).Sum)), (.int .i64 (((allA ((l.take i).map modS) 0).1).Min)), (.int .i64 (((allA ((l.take i).map modS) 0).1).Max)), (.int .i64 (((allA ((l.take i).map modS) 0).1).First)), (.int .i64 (((allA ((l.take i).map modS) 0).1).Last))], rowT 32 sampE vb (((l.take i).map modS).reverse), rowT 32 sampE va ((l.take i).map modS)] := hst
        refine s_cons (op_assign (.int .i64 ((allA (((l.take i).map modS).reverse) 0).2)) rfl ?_)
        refine s_nil ?_
        refine then_n ?_
        refine cE_seq ?_
        refine cE_region rfl ?_
        refine s_cons (op_call Try.call14 evs_nil (c_told3 (w0 := w38)) ?_)
        rintro _ w39 ⟨rfl, hcall⟩
        refine ⟨_, rfl, ?_⟩
        have hst : St w0 w39 [.blk g36 26 #[(.int .i64 (((allA (((l.take i).map modS).reverse) 0).1).From)), (.int .i64 (((allA (((l.take i).map modS).reverse) 0).1).Count)), (.int .i64 (((allA (((l.take i).map modS).reverse) 0).1).Sum)), (.int .i64 (((allA (((l.take i).map modS).reverse) 0).1).Min)), (.int .i64 (((allA (((l.take i).map modS).reverse) 0).1).Max)), (.int .i64 (((allA (((l.take i).map modS).reverse) 0).1).First)), (.int .i64 (((allA (((l.take i).map modS).reverse) 0).1).Last))], .blk g32 26 #[(.int .i64 (((allA ((l.take i).map modS) 0).1).From)), (.int .i64 (((allA ((l.take i).map modS) 0).1).Count)), (.int .i64 (((allA ((l.take i).map modS) 0).1).Sum)), (.int .i64 (((allA ((l.take i).map modS) 0).1).Min)), (.int .i64 (((allA ((l.take i).map modS) 0).1).Max)), (.int .i64 (((allA ((l.take i).map modS) 0).1).First)), (.int .i64 (((allA ((l.take i).map modS) 0).1).Last))], rowT 32 sampE vb (((l.take i).map modS).reverse), rowT 32 sampE va ((l.take i).map modS)] := hst.call hcall
        refine s_cons (op_move (.bool true) rfl ?_)
        refine s_yes 53 rfl rfl (op_move (.int .i64 ((allA ((l.take i).map modS) 0).2)) rfl ?_)
        refine s_yes 53 rfl rfl (op_eql (k := .i64) (a := (allA ((l.take i).map modS) 0).2) (b := 0) rfl rfl ?_)
        refine s_cons (op_pick_t (.bool (decide (((allA ((l.take i).map modS) 0).2) = 0))) rfl rfl ?_)
        refine s_cons (op_move (.bool (decide (((allA ((l.take i).map modS) 0).2) = 0))) rfl ?_)
        refine s_yes 57 rfl (congrArg Value.bool (show (decide (((allA ((l.take i).map modS) 0).2) = 0)) = true from (decide_eq_true hx.1))) (op_move (.int .i64 ((allA (((l.take i).map modS).reverse) 0).2)) rfl ?_)
        refine s_yes 57 rfl (congrArg Value.bool (show (decide (((allA ((l.take i).map modS) 0).2) = 0)) = true from (decide_eq_true hx.1))) (op_eql (k := .i64) (a := (allA (((l.take i).map modS).reverse) 0).2) (b := 0) rfl rfl ?_)
        refine s_cons (op_pick_t (.bool (decide (((allA (((l.take i).map modS).reverse) 0).2) = 0))) (congrArg Value.bool (show (decide (((allA ((l.take i).map modS) 0).2) = 0)) = true from (decide_eq_true hx.1))) rfl ?_)
        refine s_cons (op_move (.bool (decide (((allA (((l.take i).map modS).reverse) 0).2) = 0))) rfl ?_)
        refine s_yes 61 rfl (congrArg Value.bool (show (decide (((allA (((l.take i).map modS).reverse) 0).2) = 0)) = true from (decide_eq_true hx.2.1))) (op_fieldAddr (s := 0) Try.underlying26 rfl rfl Try.sizeOf2 rfl ?_)
        refine s_yes 61 rfl (congrArg Value.bool (show (decide (((allA (((l.take i).map modS).reverse) 0).2) = 0)) = true from (decide_eq_true hx.2.1))) (op_load1 (u := (.int .i64 (((allA ((l.take i).map modS) 0).1).Count))) Try.isAgg2 rfl ((hst.cell 1 rfl).drop 1) ?_)
        refine s_yes 61 rfl (congrArg Value.bool (show (decide (((allA (((l.take i).map modS).reverse) 0).2) = 0)) = true from (decide_eq_true hx.2.1))) (op_fieldAddr (s := 0) Try.underlying26 rfl rfl Try.sizeOf2 rfl ?_)
        refine s_yes 61 rfl (congrArg Value.bool (show (decide (((allA (((l.take i).map modS).reverse) 0).2) = 0)) = true from (decide_eq_true hx.2.1))) (op_load1 (u := (.int .i64 (((allA (((l.take i).map modS).reverse) 0).1).Count))) Try.isAgg2 rfl ((hst.cell 0 rfl).drop 1) ?_)
        refine s_yes 61 rfl (congrArg Value.bool (show (decide (((allA (((l.take i).map modS).reverse) 0).2) = 0)) = true from (decide_eq_true hx.2.1))) (op_eql (k := .i64) (a := ((allA ((l.take i).map modS) 0).1).Count) (b := ((allA (((l.take i).map modS).reverse) 0).1).Count) rfl rfl ?_)
        refine s_cons (op_pick_t (.bool (decide ((((allA ((l.take i).map modS) 0).1).Count) = (((allA (((l.take i).map modS).reverse) 0).1).Count)))) (congrArg Value.bool (show (decide (((allA (((l.take i).map modS).reverse) 0).2) = 0)) = true from (decide_eq_true hx.2.1))) rfl ?_)
        refine s_cons (op_move (.bool (decide ((((allA ((l.take i).map modS) 0).1).Count) = (((allA (((l.take i).map modS).reverse) 0).1).Count)))) rfl ?_)
        refine s_yes 68 rfl (congrArg Value.bool (show (decide ((((allA ((l.take i).map modS) 0).1).Count) = (((allA (((l.take i).map modS).reverse) 0).1).Count))) = true from (decide_eq_true hx.2.2.1))) (op_fieldAddr (s := 0) Try.underlying26 rfl rfl Try.sizeOf2 rfl ?_)
        refine s_yes 68 rfl (congrArg Value.bool (show (decide ((((allA ((l.take i).map modS) 0).1).Count) = (((allA (((l.take i).map modS).reverse) 0).1).Count))) = true from (decide_eq_true hx.2.2.1))) (op_load1 (u := (.int .i64 (((allA ((l.take i).map modS) 0).1).Sum))) Try.isAgg2 rfl ((hst.cell 1 rfl).drop 2) ?_)
        refine s_yes 68 rfl (congrArg Value.bool (show (decide ((((allA ((l.take i).map modS) 0).1).Count) = (((allA (((l.take i).map modS).reverse) 0).1).Count))) = true from (decide_eq_true hx.2.2.1))) (op_fieldAddr (s := 0) Try.underlying26 rfl rfl Try.sizeOf2 rfl ?_)
        refine s_yes 68 rfl (congrArg Value.bool (show (decide ((((allA ((l.take i).map modS) 0).1).Count) = (((allA (((l.take i).map modS).reverse) 0).1).Count))) = true from (decide_eq_true hx.2.2.1))) (op_load1 (u := (.int .i64 (((allA (((l.take i).map modS).reverse) 0).1).Sum))) Try.isAgg2 rfl ((hst.cell 0 rfl).drop 2) ?_)
        refine s_yes 68 rfl (congrArg Value.bool (show (decide ((((allA ((l.take i).map modS) 0).1).Count) = (((allA (((l.take i).map modS).reverse) 0).1).Count))) = true from (decide_eq_true hx.2.2.1))) (op_eql (k := .i64) (a := ((allA ((l.take i).map modS) 0).1).Sum) (b := ((allA (((l.take i).map modS).reverse) 0).1).Sum) rfl rfl ?_)
        refine s_cons (op_pick_t (.bool (decide ((((allA ((l.take i).map modS) 0).1).Sum) = (((allA (((l.take i).map modS).reverse) 0).1).Sum)))) (congrArg Value.bool (show (decide ((((allA ((l.take i).map modS) 0).1).Count) = (((allA (((l.take i).map modS).reverse) 0).1).Count))) = true from (decide_eq_true hx.2.2.1))) rfl ?_)
        refine s_cons (op_move (.bool (decide ((((allA ((l.take i).map modS) 0).1).Sum) = (((allA (((l.take i).map modS).reverse) 0).1).Sum)))) rfl ?_)
        refine s_yes 75 rfl (congrArg Value.bool (show (decide ((((allA ((l.take i).map modS) 0).1).Sum) = (((allA (((l.take i).map modS).reverse) 0).1).Sum))) = true from (decide_eq_true hx.2.2.2.1))) (op_fieldAddr (s := 0) Try.underlying26 rfl rfl Try.sizeOf2 rfl ?_)
        refine s_yes 75 rfl (congrArg Value.bool (show (decide ((((allA ((l.take i).map modS) 0).1).Sum) = (((allA (((l.take i).map modS).reverse) 0).1).Sum))) = true from (decide_eq_true hx.2.2.2.1))) (op_load1 (u := (.int .i64 (((allA ((l.take i).map modS) 0).1).Min))) Try.isAgg2 rfl ((hst.cell 1 rfl).drop 3) ?_)
        refine s_yes 75 rfl (congrArg Value.bool (show (decide ((((allA ((l.take i).map modS) 0).1).Sum) = (((allA (((l.take i).map modS).reverse) 0).1).Sum))) = true from (decide_eq_true hx.2.2.2.1))) (op_fieldAddr (s := 0) Try.underlying26 rfl rfl Try.sizeOf2 rfl ?_)
        refine s_yes 75 rfl (congrArg Value.bool (show (decide ((((allA ((l.take i).map modS) 0).1).Sum) = (((allA (((l.take i).map modS).reverse) 0).1).Sum))) = true from (decide_eq_true hx.2.2.2.1))) (op_load1 (u := (.int .i64 (((allA (((l.take i).map modS).reverse) 0).1).Min))) Try.isAgg2 rfl ((hst.cell 0 rfl).drop 3) ?_)
        refine s_yes 75 rfl (congrArg Value.bool (show (decide ((((allA ((l.take i).map modS) 0).1).Sum) = (((allA (((l.take i).map modS).reverse) 0).1).Sum))) = true from (decide_eq_true hx.2.2.2.1))) (op_eql (k := .i64) (a := ((allA ((l.take i).map modS) 0).1).Min) (b := ((allA (((l.take i).map modS).reverse) 0).1).Min) rfl rfl ?_)
        refine s_cons (op_pick_t (.bool (decide ((((allA ((l.take i).map modS) 0).1).Min) = (((allA (((l.take i).map modS).reverse) 0).1).Min)))) (congrArg Value.bool (show (decide ((((allA ((l.take i).map modS) 0).1).Sum) = (((allA (((l.take i).map modS).reverse) 0).1).Sum))) = true from (decide_eq_true hx.2.2.2.1))) rfl ?_)
        refine s_cons (op_move (.bool (decide ((((allA ((l.take i).map modS) 0).1).Min) = (((allA (((l.take i).map modS).reverse) 0).1).Min)))) rfl ?_)
        refine s_yes 82 rfl (congrArg Value.bool (show (decide ((((allA ((l.take i).map modS) 0).1).Min) = (((allA (((l.take i).map modS).reverse) 0).1).Min))) = true from (decide_eq_true hx.2.2.2.2.1))) (op_fieldAddr (s := 0) Try.underlying26 rfl rfl Try.sizeOf2 rfl ?_)
        refine s_yes 82 rfl (congrArg Value.bool (show (decide ((((allA ((l.take i).map modS) 0).1).Min) = (((allA (((l.take i).map modS).reverse) 0).1).Min))) = true from (decide_eq_true hx.2.2.2.2.1))) (op_load1 (u := (.int .i64 (((allA ((l.take i).map modS) 0).1).Max))) Try.isAgg2 rfl ((hst.cell 1 rfl).drop 4) ?_)
        refine s_yes 82 rfl (congrArg Value.bool (show (decide ((((allA ((l.take i).map modS) 0).1).Min) = (((allA (((l.take i).map modS).reverse) 0).1).Min))) = true from (decide_eq_true hx.2.2.2.2.1))) (op_fieldAddr (s := 0) Try.underlying26 rfl rfl Try.sizeOf2 rfl ?_)
        refine s_yes 82 rfl (congrArg Value.bool (show (decide ((((allA ((l.take i).map modS) 0).1).Min) = (((allA (((l.take i).map modS).reverse) 0).1).Min))) = true from (decide_eq_true hx.2.2.2.2.1))) (op_load1 (u := (.int .i64 (((allA (((l.take i).map modS).reverse) 0).1).Max))) Try.isAgg2 rfl ((hst.cell 0 rfl).drop 4) ?_)
        refine s_yes 82 rfl (congrArg Value.bool (show (decide ((((allA ((l.take i).map modS) 0).1).Min) = (((allA (((l.take i).map modS).reverse) 0).1).Min))) = true from (decide_eq_true hx.2.2.2.2.1))) (op_eql (k := .i64) (a := ((allA ((l.take i).map modS) 0).1).Max) (b := ((allA (((l.take i).map modS).reverse) 0).1).Max) rfl rfl ?_)
        refine s_cons (op_pick_t (.bool (decide ((((allA ((l.take i).map modS) 0).1).Max) = (((allA (((l.take i).map modS).reverse) 0).1).Max)))) (congrArg Value.bool (show (decide ((((allA ((l.take i).map modS) 0).1).Min) = (((allA (((l.take i).map modS).reverse) 0).1).Min))) = true from (decide_eq_true hx.2.2.2.2.1))) rfl ?_)
        refine s_cons (op_move (.bool (decide ((((allA ((l.take i).map modS) 0).1).Max) = (((allA (((l.take i).map modS).reverse) 0).1).Max)))) rfl ?_)
        refine s_yes 89 rfl (congrArg Value.bool (show (decide ((((allA ((l.take i).map modS) 0).1).Max) = (((allA (((l.take i).map modS).reverse) 0).1).Max))) = true from (decide_eq_true hx.2.2.2.2.2.1))) (op_fieldAddr (s := 0) Try.underlying26 rfl rfl Try.sizeOf2 rfl ?_)
        refine s_yes 89 rfl (congrArg Value.bool (show (decide ((((allA ((l.take i).map modS) 0).1).Max) = (((allA (((l.take i).map modS).reverse) 0).1).Max))) = true from (decide_eq_true hx.2.2.2.2.2.1))) (op_load1 (u := (.int .i64 (((allA ((l.take i).map modS) 0).1).First))) Try.isAgg2 rfl ((hst.cell 1 rfl).drop 5) ?_)
        refine s_yes 89 rfl (congrArg Value.bool (show (decide ((((allA ((l.take i).map modS) 0).1).Max) = (((allA (((l.take i).map modS).reverse) 0).1).Max))) = true from (decide_eq_true hx.2.2.2.2.2.1))) (op_fieldAddr (s := 0) Try.underlying26 rfl rfl Try.sizeOf2 rfl ?_)
        refine s_yes 89 rfl (congrArg Value.bool (show (decide ((((allA ((l.take i).map modS) 0).1).Max) = (((allA (((l.take i).map modS).reverse) 0).1).Max))) = true from (decide_eq_true hx.2.2.2.2.2.1))) (op_load1 (u := (.int .i64 (((allA (((l.take i).map modS).reverse) 0).1).Last))) Try.isAgg2 rfl ((hst.cell 0 rfl).drop 6) ?_)
        refine s_yes 89 rfl (congrArg Value.bool (show (decide ((((allA ((l.take i).map modS) 0).1).Max) = (((allA (((l.take i).map modS).reverse) 0).1).Max))) = true from (decide_eq_true hx.2.2.2.2.2.1))) (op_eql (k := .i64) (a := ((allA ((l.take i).map modS) 0).1).First) (b := ((allA (((l.take i).map modS).reverse) 0).1).Last) rfl rfl ?_)
        refine s_cons (op_pick_t (.bool (decide ((((allA ((l.take i).map modS) 0).1).First) = (((allA (((l.take i).map modS).reverse) 0).1).Last)))) (congrArg Value.bool (show (decide ((((allA ((l.take i).map modS) 0).1).Max) = (((allA (((l.take i).map modS).reverse) 0).1).Max))) = true from (decide_eq_true hx.2.2.2.2.2.1))) rfl ?_)
        refine s_cons (op_move (.bool (decide ((((allA ((l.take i).map modS) 0).1).First) = (((allA (((l.take i).map modS).reverse) 0).1).Last)))) rfl ?_)
        refine s_yes 96 rfl (congrArg Value.bool (show (decide ((((allA ((l.take i).map modS) 0).1).First) = (((allA (((l.take i).map modS).reverse) 0).1).Last))) = true from (decide_eq_true hx.2.2.2.2.2.2.1))) (op_fieldAddr (s := 0) Try.underlying26 rfl rfl Try.sizeOf2 rfl ?_)
        refine s_yes 96 rfl (congrArg Value.bool (show (decide ((((allA ((l.take i).map modS) 0).1).First) = (((allA (((l.take i).map modS).reverse) 0).1).Last))) = true from (decide_eq_true hx.2.2.2.2.2.2.1))) (op_load1 (u := (.int .i64 (((allA ((l.take i).map modS) 0).1).Last))) Try.isAgg2 rfl ((hst.cell 1 rfl).drop 6) ?_)
        refine s_yes 96 rfl (congrArg Value.bool (show (decide ((((allA ((l.take i).map modS) 0).1).First) = (((allA (((l.take i).map modS).reverse) 0).1).Last))) = true from (decide_eq_true hx.2.2.2.2.2.2.1))) (op_fieldAddr (s := 0) Try.underlying26 rfl rfl Try.sizeOf2 rfl ?_)
        refine s_yes 96 rfl (congrArg Value.bool (show (decide ((((allA ((l.take i).map modS) 0).1).First) = (((allA (((l.take i).map modS).reverse) 0).1).Last))) = true from (decide_eq_true hx.2.2.2.2.2.2.1))) (op_load1 (u := (.int .i64 (((allA (((l.take i).map modS).reverse) 0).1).First))) Try.isAgg2 rfl ((hst.cell 0 rfl).drop 5) ?_)
        refine s_yes 96 rfl (congrArg Value.bool (show (decide ((((allA ((l.take i).map modS) 0).1).First) = (((allA (((l.take i).map modS).reverse) 0).1).Last))) = true from (decide_eq_true hx.2.2.2.2.2.2.1))) (op_eql (k := .i64) (a := ((allA ((l.take i).map modS) 0).1).Last) (b := ((allA (((l.take i).map modS).reverse) 0).1).First) rfl rfl ?_)
        refine s_cons (op_pick_t (.bool (decide ((((allA ((l.take i).map modS) 0).1).Last) = (((allA (((l.take i).map modS).reverse) 0).1).First)))) (congrArg Value.bool (show (decide ((((allA ((l.take i).map modS) 0).1).First) = (((allA (((l.take i).map modS).reverse) 0).1).Last))) = true from (decide_eq_true hx.2.2.2.2.2.2.1))) rfl ?_)
        refine s_cons (op_assign (.bool (decide ((((allA ((l.take i).map modS) 0).1).Last) = (((allA (((l.take i).map modS).reverse) 0).1).First)))) rfl ?_)
        refine s_nil ?_
        refine then_n ?_
        refine cE_ret ?_
        refine post_r _ (res1 (v := (.bool true)) (congrArg Value.bool (show (decide ((((allA ((l.take i).map modS) 0).1).Last) = (((allA (((l.take i).map modS).reverse) 0).1).First))) = true from (decide_eq_true hx.2.2.2.2.2.2.2)))) ?_
        exact ⟨rfl, hst.bare⟩

end Go.Proofs.Ytffnhcioponbbaa
