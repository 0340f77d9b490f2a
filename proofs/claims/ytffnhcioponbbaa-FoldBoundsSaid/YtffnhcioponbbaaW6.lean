/- the law FoldBounds -/
import Derived.Test.YtffnhcioponbbaaW2
import Derived.Test.YtffnhcioponbbaaG
namespace Go.Proofs.Ytffnhcioponbbaa
open Go.RowKit

theorem c_FoldBounds (w0 : World) (v_l : Value) (l : List Sample) (h_l : Sl w0 sampE v_l l) (hl : ∀ s ∈ l, s.ok) :
    Calls Try.prog 4 #[v_l] w0 fun e w' => e = .returned (.bool true) ∧ St w0 w' [] := by
  refine calls_E (n := 151) (ts := [2]) Try.func4 rfl rfl rfl (by simp) ?_
  have hst := St.start w0
  refine cE_seq ?_
  refine cE_region rfl ?_
  refine s_cons (op_assign (.bool false) rfl ?_)
  refine s_nil ?_
  refine then_n ?_
  refine cE_seq ?_
  refine cE_seq ?_
  refine cE_region rfl ?_
  refine s_cons (op_move v_l rfl ?_)
  refine s_cons (op_len (E := sampE) (xs := l) Try.underlying22 rfl h_l ?_)
  refine s_cons (op_lss (k := .i64) (a := (l.length : Int)) (b := 1) rfl rfl ?_)
  refine s_cons (op_move (.bool (decide ((l.length : Int) < 1))) rfl ?_)
  rcases Bool.eq_false_or_eq_true (decide ((l.length : Int) < 1)) with b1 | b1
  · have c2 : (l.length : Int) < 1 := of_decide_eq_true b1
    refine s_no 14 rfl (congrArg Value.bool b1) ?_
    refine s_no 14 rfl (congrArg Value.bool b1) ?_
    refine s_no 14 rfl (congrArg Value.bool b1) ?_
    refine s_cons (op_pick_t (.bool true) (congrArg Value.bool b1) rfl ?_)
    refine s_nil ?_
    refine then_n ?_
    refine cE_cond true rfl (fun _ => ?_) (fun h => by cases h)
    refine cE_seq ?_
    refine cE_region rfl ?_
    refine s_cons (op_call Try.call14 evs_nil (c_told3 (w0 := w0)) ?_)
    rintro _ w3 ⟨rfl, hcall⟩
    refine ⟨_, rfl, ?_⟩
    have hst : St w0 w3 [] := hst.call hcall
    refine s_cons (op_assign (.bool true) rfl ?_)
    refine s_nil ?_
    refine then_n ?_
    refine cE_ret ?_
    refine then_r ?_
    refine post_r _ (res1 (v := (.bool true)) rfl) ?_
    exact ⟨rfl, hst.bare⟩
  · have c4 : ¬ ((l.length : Int) < 1) := of_decide_eq_false b1
    refine s_yes 14 rfl (congrArg Value.bool b1) (op_move v_l rfl ?_)
    refine s_yes 14 rfl (congrArg Value.bool b1) (op_len (E := sampE) (xs := l) Try.underlying22 rfl h_l ?_)
    refine s_yes 14 rfl (congrArg Value.bool b1) (op_gtr (k := .i64) (a := (l.length : Int)) (b := 60) rfl rfl ?_)
    refine s_cons (op_pick_f (.bool (decide (60 < (l.length : Int)))) (congrArg Value.bool b1) rfl ?_)
    refine s_nil ?_
    refine then_n ?_
    rcases Bool.eq_false_or_eq_true (decide (60 < (l.length : Int))) with b5 | b5
    · have c6 : 60 < (l.length : Int) := of_decide_eq_true b5
      refine cE_cond true (congrArg Value.bool b5) (fun _ => ?_) (fun h => by cases h)
      refine cE_seq ?_
      refine cE_region rfl ?_
      refine s_cons (op_call Try.call14 evs_nil (c_told3 (w0 := w0)) ?_)
      rintro _ w7 ⟨rfl, hcall⟩
      refine ⟨_, rfl, ?_⟩
      have hst : St w0 w7 [] := hst.call hcall
      refine s_cons (op_assign (.bool true) rfl ?_)
      refine s_nil ?_
      refine then_n ?_
      refine cE_ret ?_
      refine then_r ?_
      refine post_r _ (res1 (v := (.bool true)) rfl) ?_
      exact ⟨rfl, hst.bare⟩
    · have c8 : ¬ (60 < (l.length : Int)) := of_decide_eq_false b5
      refine cE_cond false (congrArg Value.bool b5) (fun h => by cases h) (fun _ => ?_)
      refine cE_skip ?_
      refine then_n ?_
      refine cE_seq ?_
      refine cE_region rfl ?_
      refine s_cons (op_buildSlice (E := sampE) [] hst Try.underlying22 Try.sizeOf32 Try.zeroValue32 evp_nil parts_nil rfl (by decide) (fun v9 w10 hst => ?_))
      replace hst : St w0 w10 [rowT 32 sampE v9 ([])] := hst
      refine s_cons (op_move v_l rfl ?_)
      refine s_cons (op_append (E := sampE) (xs := []) (ys := l) (z := (.agg #[(.int .i64 0), (.int .i64 0)])) (bytes := 16) hst 0 rfl Try.underlying22 (by kernel_rfl) rfl rfl rfl (h_l.below hst.below) (by first | omega | (simp only [List.length_append, List.length_cons, List.length_nil, List.length_take, List.length_drop, List.length_set, List.length_map, List.length_reverse]; omega)) (by first | omega | (simp only [List.length_append, List.length_cons, List.length_nil, List.length_take, List.length_drop, List.length_set, List.length_map, List.length_reverse]; omega)) (fun v11 w12 hst => ?_))
      replace hst : St w0 w12 [rowT 32 sampE v11 l] := hst
      refine s_cons (op_assign v11 rfl ?_)
      refine s_nil ?_
      refine then_n ?_
      refine cE_seq ?_
      refine cE_region rfl ?_
      refine s_cons (op_assign (.int .i64 0) rfl ?_)
      refine s_nil ?_
      refine then_n ?_
      refine cE_seq ?_
      refine cE_seq ?_
      refine cE_region rfl ?_
      refine s_cons (op_assign (.int .i64 0) rfl ?_)
      refine s_nil ?_
      refine then_n ?_
      refine cE_block ?_
      refine cE_loop (fun (m : Nat) (ρ : Env) (w : World) => ∃ (xs : List Sample) (i : Nat), m = xs.length - i ∧ ρ 0 = v_l ∧ ρ 2 = (.bool false) ∧ ρ 11 = v_l ∧ ρ 12 = (.int .i64 (l.length : Int)) ∧ ρ 13 = (.bool (decide ((l.length : Int) < 1))) ∧ ρ 14 = (.bool (decide ((l.length : Int) < 1))) ∧ ρ 15 = v_l ∧ ρ 16 = (.int .i64 (l.length : Int)) ∧ ρ 17 = (.bool (decide (60 < (l.length : Int)))) ∧ ρ 18 = (.bool (decide (60 < (l.length : Int)))) ∧ ρ 21 = v_l ∧ ρ 22 = v11 ∧ ρ 5 = (.int .i64 (i : Int)) ∧ ρ 4 = (.int .i64 (sumS (xs.take i))) ∧ ρ 3 = v11 ∧ St w0 w [rowT 32 sampE v11 xs] ∧ xs.length = l.length ∧ i ≤ xs.length ∧ SmallTo xs i ∧ (∀ s ∈ xs, s.ok)) id _ ⟨l, 0, rfl, rfl, rfl, rfl, rfl, rfl, rfl, rfl, rfl, rfl, rfl, rfl, rfl, (congrArg (Value.int .i64) (show 0 = _ from by omega)), (congrArg (Value.int .i64) (show 0 = _ from by first | rfl | exact (sum_set (by omega) _).symm)), rfl, hst, (by first | rfl | (simp only [List.length_set]; omega)), (by first | omega | (simp only [List.length_set]; omega)), (by first | exact fun j h hj => absurd hj (by omega) | exact smallTo_set hsm (by omega) (tmod_small _)), (by first | exact hl | exact set_ok hok ⟨(hok _ (List.getElem_mem (by omega))).1, modV_r _⟩)⟩ ?_
      rintro m14 ρ15 w16 ⟨xs, i, hm14, q13_0, q13_2, q13_11, q13_12, q13_13, q13_14, q13_15, q13_16, q13_17, q13_18, q13_21, q13_22, q13_5, q13_4, q13_3, hst, hxl, hi, hsm, hok⟩
      have hss := sum_small hi hsm
      refine cE_seq ?_
      refine cE_seq ?_
      refine cE_region rfl ?_
      refine s_cons (op_move (.int .i64 (i : Int)) q13_5 ?_)
      refine s_cons (op_move v11 q13_3 ?_)
      refine s_cons (op_len (E := sampE) (xs := xs) Try.underlying22 rfl (hst.sl 0 rfl) ?_)
      refine s_cons (op_lss (k := .i64) (a := (i : Int)) (b := (xs.length : Int)) rfl rfl ?_)
      refine s_nil ?_
      refine then_n ?_
      rcases Bool.eq_false_or_eq_true (decide ((i : Int) < (xs.length : Int))) with b17 | b17
      · have c18 : (i : Int) < (xs.length : Int) := of_decide_eq_true b17
        refine cE_cond true (congrArg Value.bool b17) (fun _ => ?_) (fun h => by cases h)
        refine cE_skip ?_
        refine then_n ?_
        refine cE_seq ?_
        refine cE_block ?_
        refine cE_seq ?_
        refine cE_region rfl ?_
        refine s_cons (op_move v11 q13_3 ?_)
        refine s_cons (op_move (.int .i64 (i : Int)) q13_5 ?_)
        refine s_cons (op_move v11 q13_3 ?_)
        refine s_cons (op_move (.int .i64 (i : Int)) q13_5 ?_)
        refine s_cons (op_indexAddrN (E := sampE) (xs := xs) i Try.underlying22 Try.sizeOf32 rfl (hst.sl 0 rfl) rfl (by omega) (by first | omega | (simp only [List.length_set]; omega)) (fun a19 o20 p21 => ?_))
        refine s_cons (op_fieldAddr (s := 0) Try.underlying32 rfl rfl Try.sizeOf2 rfl ?_)
        refine s_cons (op_load1 (u := (.int .i64 ((xs[i]'(by first | omega | (simp only [List.length_set]; omega))).V))) Try.isAgg2 rfl (p21.drop 1) ?_)
        refine s_cons (op_rem (k := .i64) (a := (xs[i]'(by first | omega | (simp only [List.length_set]; omega))).V) (b := 1000000000) (Int.tmod (xs[i]'(by first | omega | (simp only [List.length_set]; omega))).V 1000000000) rfl rfl (by omega) rfl ?_)
        refine s_cons (op_indexRowN hst 0 rfl i Try.underlying22 Try.sizeOf32 rfl rfl (by omega) (by first | omega | (simp only [List.length_set]; omega)) (fun g26 hb25 p24 => ?_))
        refine s_cons (op_fieldAddr (s := 0) Try.underlying32 rfl rfl Try.sizeOf2 rfl ?_)
        refine s_cons0 (op_storeRow1 (y := (⟨(xs[i]'(by first | omega | (simp only [List.length_set]; omega))).T, (Int.tmod (xs[i]'(by first | omega | (simp only [List.length_set]; omega))).V 1000000000)⟩ : Sample)) hst 0 rfl hb25 Try.sizeOf2 rfl rfl rfl (i) 1 rfl (by first | omega | (simp only [List.length_set]; omega)) (by decide) rfl (fun w27 hst => ?_))
        replace hst : St w0 w27 [rowT 32 sampE v11 (xs.set (i) (⟨(xs[i]'(by first | omega | (simp only [List.length_set]; omega))).T, (Int.tmod (xs[i]'(by first | omega | (simp only [List.length_set]; omega))).V 1000000000)⟩ : Sample))] := hst
        refine s_nil ?_
        refine then_n ?_
        refine cE_region rfl ?_
        refine s_cons (op_move (.int .i64 (sumS (xs.take i))) q13_4 ?_)
        refine s_cons (op_move v11 q13_3 ?_)
        refine s_cons (op_move (.int .i64 (i : Int)) q13_5 ?_)
        refine s_cons (op_indexAddrN (E := sampE) (xs := (xs.set (i) (⟨(xs[i]'(by first | omega | (simp only [List.length_set]; omega))).T, (Int.tmod (xs[i]'(by first | omega | (simp only [List.length_set]; omega))).V 1000000000)⟩ : Sample))) i Try.underlying22 Try.sizeOf32 rfl (hst.sl 0 rfl) rfl (by omega) (by first | omega | (simp only [List.length_set]; omega)) (fun a28 o29 p30 => ?_))
        refine s_cons (op_fieldAddr (s := 0) Try.underlying32 rfl rfl Try.sizeOf2 rfl ?_)
        refine s_cons (op_load1 (u := (.int .i64 (((xs.set (i) (⟨(xs[i]'(by first | omega | (simp only [List.length_set]; omega))).T, (Int.tmod (xs[i]'(by first | omega | (simp only [List.length_set]; omega))).V 1000000000)⟩ : Sample))[i]'(by first | omega | (simp only [List.length_set]; omega))).V))) Try.isAgg2 rfl (p30.drop 1) ?_)
        have hq : -1000000000 < (((xs.set (i) (⟨(xs[i]'(by first | omega | (simp only [List.length_set]; omega))).T, (Int.tmod (xs[i]'(by first | omega | (simp only [List.length_set]; omega))).V 1000000000)⟩ : Sample))[i]'(by first | omega | (simp only [List.length_set]; omega))).V) ∧ (((xs.set (i) (⟨(xs[i]'(by first | omega | (simp only [List.length_set]; omega))).T, (Int.tmod (xs[i]'(by first | omega | (simp only [List.length_set]; omega))).V 1000000000)⟩ : Sample))[i]'(by first | omega | (simp only [List.length_set]; omega))).V) < 1000000000 := by rw [List.getElem_set_self]; exact tmod_small _
        refine s_cons (op_add (k := .i64) (a := (sumS (xs.take i))) (b := ((xs.set (i) (⟨(xs[i]'(by first | omega | (simp only [List.length_set]; omega))).T, (Int.tmod (xs[i]'(by first | omega | (simp only [List.length_set]; omega))).V 1000000000)⟩ : Sample))[i]'(by first | omega | (simp only [List.length_set]; omega))).V) ((sumS (xs.take i)) + ((xs.set (i) (⟨(xs[i]'(by first | omega | (simp only [List.length_set]; omega))).T, (Int.tmod (xs[i]'(by first | omega | (simp only [List.length_set]; omega))).V 1000000000)⟩ : Sample))[i]'(by first | omega | (simp only [List.length_set]; omega))).V) rfl rfl (xi64 (by omega) (by omega)) ?_)
        refine s_cons (op_assign (.int .i64 ((sumS (xs.take i)) + ((xs.set (i) (⟨(xs[i]'(by first | omega | (simp only [List.length_set]; omega))).T, (Int.tmod (xs[i]'(by first | omega | (simp only [List.length_set]; omega))).V 1000000000)⟩ : Sample))[i]'(by first | omega | (simp only [List.length_set]; omega))).V)) rfl ?_)
        refine s_nil ?_
        refine block_n (then_n ?_)
        refine cE_region rfl ?_
        refine s_cons (op_move (.int .i64 (i : Int)) q13_5 ?_)
        refine s_cons (op_add (k := .i64) (a := (i : Int)) (b := 1) ((i : Int) + 1) rfl rfl (xi64 (by omega) (by omega)) ?_)
        refine s_cons (op_assign (.int .i64 ((i : Int) + 1)) rfl ?_)
        refine s_nil ?_
        refine then_n ?_
        exact ⟨_, ⟨(xs.set (i) (⟨(xs[i]'(by first | omega | (simp only [List.length_set]; omega))).T, (Int.tmod (xs[i]'(by first | omega | (simp only [List.length_set]; omega))).V 1000000000)⟩ : Sample)), (i + 1), rfl, q13_0, q13_2, q13_11, q13_12, q13_13, q13_14, q13_15, q13_16, q13_17, q13_18, q13_21, q13_22, (congrArg (Value.int .i64) (show ((i : Int) + 1) = _ from by omega)), (congrArg (Value.int .i64) (show ((sumS (xs.take i)) + ((xs.set (i) (⟨(xs[i]'(by first | omega | (simp only [List.length_set]; omega))).T, (Int.tmod (xs[i]'(by first | omega | (simp only [List.length_set]; omega))).V 1000000000)⟩ : Sample))[i]'(by first | omega | (simp only [List.length_set]; omega))).V) = _ from by first | rfl | exact (sum_set (by omega) _).symm)), q13_3, hst, (by first | rfl | (simp only [List.length_set]; omega)), (by first | omega | (simp only [List.length_set]; omega)), (by first | exact fun j h hj => absurd hj (by omega) | exact smallTo_set hsm (by omega) (tmod_small _)), (by first | exact hl | exact set_ok hok ⟨(hok _ (List.getElem_mem (by omega))).1, modV_r _⟩)⟩, (by simp only [id, List.length_set]; omega)⟩
      · have c31 : ¬ ((i : Int) < (xs.length : Int)) := of_decide_eq_false b17
        refine cE_cond false (congrArg Value.bool b17) (fun h => by cases h) (fun _ => ?_)
        refine cE_exit ?_
        refine then_x (then_x (block_hit (then_n ?_)))
        refine cE_seq ?_
        have hb := bounds_all (xs := xs) (by omega) (by omega) (smallTo_all hsm (by omega))
        have he : sumS (xs.take i) = sumS xs := by rw [List.take_of_length_le (by omega)]
        refine cE_region rfl ?_
        refine s_cons (op_move v11 q13_3 ?_)
        refine s_cons (op_call Try.call15 (evs_cons (v := v11) rfl (evs_cons (v := (.int .i64 3)) rfl evs_nil)) (c_All (w0 := w16) (v_l := v11) (l := xs) (h_l := (hst.sl 0 rfl)) (fr := 3) (hl := hok) (fr0 := (by omega)) (fr1 := (by omega)) (hn := (by omega))) ?_)
        rintro _ w32 ⟨rfl, hcall⟩
        refine ⟨_, rfl, ?_⟩
        have hst : St w0 w32 [rowT 32 sampE v11 xs] := hst.call hcall
        refine s_cons (op_move (.tuple #[(.agg #[(.int .i64 (((allA xs 3).1).From)), (.int .i64 (((allA xs 3).1).Count)), (.int .i64 (((allA xs 3).1).Sum)), (.int .i64 (((allA xs 3).1).Min)), (.int .i64 (((allA xs 3).1).Max)), (.int .i64 (((allA xs 3).1).First)), (.int .i64 (((allA xs 3).1).Last))]), (.int .i64 ((allA xs 3).2))]) rfl ?_)
        refine s_cons (op_extract (.agg #[(.int .i64 (((allA xs 3).1).From)), (.int .i64 (((allA xs 3).1).Count)), (.int .i64 (((allA xs 3).1).Sum)), (.int .i64 (((allA xs 3).1).Min)), (.int .i64 (((allA xs 3).1).Max)), (.int .i64 (((allA xs 3).1).First)), (.int .i64 (((allA xs 3).1).Last))]) rfl rfl ?_)
        refine s_cons (op_extract (.int .i64 ((allA xs 3).2)) rfl rfl ?_)
        refine s_cons (op_alloc (cs := #[(.int .i64 0), (.int .i64 0), (.int .i64 0), (.int .i64 0), (.int .i64 0), (.int .i64 0), (.int .i64 0)]) hst Try.zeroValue26 rfl (fun g33 w34 hst _ => ?_))
        replace hst : St w0 w34 [.blk g33 26 #[(.int .i64 0), (.int .i64 0), (.int .i64 0), (.int .i64 0), (.int .i64 0), (.int .i64 0), (.int .i64 0)], rowT 32 sampE v11 xs] := hst
        refine s_cons0 (op_storeAll hst 0 rfl Try.sizeOf26 rfl rfl rfl rfl (by simp [Value.oneCell']) (fun w35 hst => ?_))
        replace hst : St w0 w35 [.blk g33 26 #[(.int .i64 (((allA xs 3).1).From)), (.int .i64 (((allA xs 3).1).Count)), (.int .i64 (((allA xs 3).1).Sum)), (.int .i64 (((allA xs 3).1).Min)), (.int .i64 (((allA xs 3).1).Max)), (.int .i64 (((allA xs 3).1).First)), (.int .i64 (((allA xs 3).1).Last))], rowT 32 sampE v11 xs] := hst
        refine s_cons (op_assign (.int .i64 ((allA xs 3).2)) rfl ?_)
        refine s_nil ?_
        refine then_n ?_
        refine cE_seq ?_
        refine cE_region rfl ?_
        refine s_cons (op_assign (.bool false) rfl ?_)
        refine s_cons (op_assign (.bool false) rfl ?_)
        refine s_nil ?_
        refine then_n ?_
        refine cE_seq ?_
        refine cE_seq ?_
        refine cE_region rfl ?_
        refine s_cons (op_assign (.int .i64 0) rfl ?_)
        refine s_nil ?_
        refine then_n ?_
        refine cE_block ?_
        refine cE_loop (fun (m : Nat) (ρ : Env) (w : World) => ∃ (k : Nat) (lo : Bool) (hg : Bool), m = xs.length - k ∧ ρ 0 = v_l ∧ ρ 11 = v_l ∧ ρ 12 = (.int .i64 (l.length : Int)) ∧ ρ 13 = (.bool (decide ((l.length : Int) < 1))) ∧ ρ 14 = (.bool (decide ((l.length : Int) < 1))) ∧ ρ 15 = v_l ∧ ρ 16 = (.int .i64 (l.length : Int)) ∧ ρ 17 = (.bool (decide (60 < (l.length : Int)))) ∧ ρ 18 = (.bool (decide (60 < (l.length : Int)))) ∧ ρ 21 = v_l ∧ ρ 22 = v11 ∧ ρ 5 = (.int .i64 (i : Int)) ∧ ρ 4 = (.int .i64 (sumS (xs.take i))) ∧ ρ 3 = v11 ∧ ρ 23 = (.int .i64 (i : Int)) ∧ ρ 24 = v11 ∧ ρ 25 = (.int .i64 (xs.length : Int)) ∧ ρ 26 = (.bool (decide ((i : Int) < (xs.length : Int)))) ∧ ρ 47 = v11 ∧ ρ 48 = (.tuple #[(.agg #[(.int .i64 (((allA xs 3).1).From)), (.int .i64 (((allA xs 3).1).Count)), (.int .i64 (((allA xs 3).1).Sum)), (.int .i64 (((allA xs 3).1).Min)), (.int .i64 (((allA xs 3).1).Max)), (.int .i64 (((allA xs 3).1).First)), (.int .i64 (((allA xs 3).1).Last))]), (.int .i64 ((allA xs 3).2))]) ∧ ρ 46 = (.tuple #[(.agg #[(.int .i64 (((allA xs 3).1).From)), (.int .i64 (((allA xs 3).1).Count)), (.int .i64 (((allA xs 3).1).Sum)), (.int .i64 (((allA xs 3).1).Min)), (.int .i64 (((allA xs 3).1).Max)), (.int .i64 (((allA xs 3).1).First)), (.int .i64 (((allA xs 3).1).Last))]), (.int .i64 ((allA xs 3).2))]) ∧ ρ 49 = (.agg #[(.int .i64 (((allA xs 3).1).From)), (.int .i64 (((allA xs 3).1).Count)), (.int .i64 (((allA xs 3).1).Sum)), (.int .i64 (((allA xs 3).1).Min)), (.int .i64 (((allA xs 3).1).Max)), (.int .i64 (((allA xs 3).1).First)), (.int .i64 (((allA xs 3).1).Last))]) ∧ ρ 50 = (.int .i64 ((allA xs 3).2)) ∧ ρ 6 = (.pointer (some ⟨g33, 0, none⟩)) ∧ ρ 7 = (.int .i64 ((allA xs 3).2)) ∧ ρ 10 = (.int .i64 (k : Int)) ∧ ρ 8 = (.bool lo) ∧ ρ 9 = (.bool hg) ∧ St w0 w [.blk g33 26 #[(.int .i64 (((allA xs 3).1).From)), (.int .i64 (((allA xs 3).1).Count)), (.int .i64 (((allA xs 3).1).Sum)), (.int .i64 (((allA xs 3).1).Min)), (.int .i64 (((allA xs 3).1).Max)), (.int .i64 (((allA xs 3).1).First)), (.int .i64 (((allA xs 3).1).Last))], rowT 32 sampE v11 xs] ∧ k ≤ xs.length ∧ Seen xs (allA xs 3).1.Min lo k ∧ Seen xs (allA xs 3).1.Max hg k) id _ ⟨0, false, false, rfl, q13_0, q13_11, q13_12, q13_13, q13_14, q13_15, q13_16, q13_17, q13_18, q13_21, q13_22, q13_5, q13_4, q13_3, rfl, rfl, rfl, rfl, rfl, rfl, rfl, rfl, rfl, rfl, rfl, (congrArg (Value.int .i64) (show 0 = _ from by omega)), rfl, rfl, hst, (by omega), (by first | exact seen_start | exact seen_true | exact seen_next (by omega) hlo (by assumption)), (by first | exact seen_start | exact seen_true | exact seen_next (by omega) hhg (by assumption))⟩ ?_
        rintro m37 ρ38 w39 ⟨k, lo, hg, hm37, q36_0, q36_11, q36_12, q36_13, q36_14, q36_15, q36_16, q36_17, q36_18, q36_21, q36_22, q36_5, q36_4, q36_3, q36_23, q36_24, q36_25, q36_26, q36_47, q36_48, q36_46, q36_49, q36_50, q36_6, q36_7, q36_10, q36_8, q36_9, hst, hk, hlo, hhg⟩
        refine cE_seq ?_
        refine cE_seq ?_
        refine cE_region rfl ?_
        refine s_cons (op_move (.int .i64 (k : Int)) q36_10 ?_)
        refine s_cons (op_move v11 q36_3 ?_)
        refine s_cons (op_len (E := sampE) (xs := xs) Try.underlying22 rfl (hst.sl 1 rfl) ?_)
        refine s_cons (op_lss (k := .i64) (a := (k : Int)) (b := (xs.length : Int)) rfl rfl ?_)
        refine s_nil ?_
        refine then_n ?_
        rcases Bool.eq_false_or_eq_true (decide ((k : Int) < (xs.length : Int))) with b40 | b40
        · have c41 : (k : Int) < (xs.length : Int) := of_decide_eq_true b40
          refine cE_cond true (congrArg Value.bool b40) (fun _ => ?_) (fun h => by cases h)
          refine cE_skip ?_
          refine then_n ?_
          refine cE_seq ?_
          refine cE_block ?_
          refine cE_seq ?_
          refine cE_seq ?_
          refine cE_regionL hst [[(3, none)], [(10, none)], [(57, some 0), (58, some 1)], [(59, some 2)], [(60, some 3)], [(6, none)], [(62, some 5)], [(61, some 4), (63, some 6)], [(64, some 7)], [(3, none), (65, some 8)], [(10, none), (65, some 8)], [(66, some 9), (67, some 10), (65, some 8)], [(68, some 11), (65, some 8)], [(69, some 12), (65, some 8)], [(6, none), (65, some 8)], [(71, some 14), (65, some 8)], [(70, some 13), (72, some 15), (65, some 8)], [(65, some 8), (73, some 16)]] [(rEq v11), (rEq (.int .i64 (k : Int))), (rPt [(.int .i64 ((xs[k]'(by first | omega | (simp only [List.length_set]; omega))).T)), (.int .i64 ((xs[k]'(by first | omega | (simp only [List.length_set]; omega))).V))]), (rPt [(.int .i64 ((xs[k]'(by first | omega | (simp only [List.length_set]; omega))).V))]), (rEq (.int .i64 ((xs[k]'(by first | omega | (simp only [List.length_set]; omega))).V))), (rEq (.pointer (some ⟨g33, (0 + 3), none⟩))), (rEq (.int .i64 (((allA xs 3).1).Min))), (rEq (.bool (decide (((xs[k]'(by first | omega | (simp only [List.length_set]; omega))).V) < (((allA xs 3).1).Min))))), (rEq (.bool (decide (((xs[k]'(by first | omega | (simp only [List.length_set]; omega))).V) < (((allA xs 3).1).Min))))), (rEq v11), (rEq (.int .i64 (k : Int))), (rPt [(.int .i64 ((xs[k]'(by first | omega | (simp only [List.length_set]; omega))).T)), (.int .i64 ((xs[k]'(by first | omega | (simp only [List.length_set]; omega))).V))]), (rPt [(.int .i64 ((xs[k]'(by first | omega | (simp only [List.length_set]; omega))).V))]), (rEq (.int .i64 ((xs[k]'(by first | omega | (simp only [List.length_set]; omega))).V))), (rEq (.pointer (some ⟨g33, (0 + 4), none⟩))), (rEq (.int .i64 (((allA xs 3).1).Max))), (rEq (.bool (decide ((((allA xs 3).1).Max) < ((xs[k]'(by first | omega | (simp only [List.length_set]; omega))).V))))), (rEq (.bool (decide ((((allA xs 3).1).Max) < ((xs[k]'(by first | omega | (simp only [List.length_set]; omega))).V)))))] (by kernel_rfl) rfl (by kernel_rfl) ⟨sEq, sEq, sPt, sPt, sEq, sEq, sEq, sEq, sEq, sEq, sEq, sPt, sPt, sEq, sEq, sEq, sEq, sEq, trivial⟩ ⟨?_, ?_, ?_, ?_, ?_, ?_, ?_, ?_, ?_, ?_, ?_, ?_, ?_, ?_, ?_, ?_, ?_, ?_, trivial⟩ ?_
          · rintro ρ48 w49 hj50 ⟨f3, _⟩
            have hst := hj50.2
            exact go_plain (op_move v11 (f3.trans q36_3) (kS hj50 rfl))
          · rintro ρ51 w52 hj53 ⟨f10, _⟩
            have hst := hj53.2
            exact go_plain (op_move (.int .i64 (k : Int)) (f10.trans q36_10) (kS hj53 rfl))
          · rintro ρ54 w55 hj56 ⟨f57, f58, _⟩
            have hst := hj56.2
            refine go_plain (op_indexAddrN (E := sampE) (xs := xs) k Try.underlying22 Try.sizeOf32 f57 (hst.sl 1 rfl) f58 (by omega) (by first | omega | (simp only [List.length_set]; omega)) (fun a57 o58 p59 => ?_))
            exact kS hj56 ⟨_, _, rfl, p59⟩
          · rintro ρ60 w61 hj62 ⟨f59, _⟩
            have hst := hj62.2
            obtain ⟨a63, o64, e65, p66⟩ := f59
            exact go_plain (op_fieldAddr (s := 0) Try.underlying32 rfl rfl Try.sizeOf2 e65 (kS hj62 ⟨_, _, rfl, (p66.drop 1)⟩))
          · rintro ρ67 w68 hj69 ⟨f60, _⟩
            have hst := hj69.2
            obtain ⟨a70, o71, e72, p73⟩ := f60
            exact go_plain (op_load1 (u := (.int .i64 ((xs[k]'(by first | omega | (simp only [List.length_set]; omega))).V))) Try.isAgg2 e72 p73 (kS hj69 rfl))
          · rintro ρ74 w75 hj76 ⟨f6, _⟩
            have hst := hj76.2
            exact go_plain (op_fieldAddr (s := 0) Try.underlying26 rfl rfl Try.sizeOf2 (f6.trans q36_6) (kS hj76 rfl))
          · rintro ρ77 w78 hj79 ⟨f62, _⟩
            have hst := hj79.2
            exact go_plain (op_load1 (u := (.int .i64 (((allA xs 3).1).Min))) Try.isAgg2 f62 ((hst.cell 0 rfl).drop 3) (kS hj79 rfl))
          · rintro ρ80 w81 hj82 ⟨f61, f63, _⟩
            have hst := hj82.2
            exact go_plain (op_lss (k := .i64) (a := (xs[k]'(by first | omega | (simp only [List.length_set]; omega))).V) (b := ((allA xs 3).1).Min) f61 f63 (kS hj82 rfl))
          · rintro ρ83 w84 hj85 ⟨f64, _⟩
            have hst := hj85.2
            exact go_plain (op_move (.bool (decide (((xs[k]'(by first | omega | (simp only [List.length_set]; omega))).V) < (((allA xs 3).1).Min)))) f64 (kS hj85 rfl))
          · rintro ρ86 w87 hj88 ⟨f3, f65, _⟩
            have hst := hj88.2
            exact go_yes 65 rfl (f65.trans (congrArg Value.bool (show (decide (((xs[k]'(by first | omega | (simp only [List.length_set]; omega))).V) < (((allA xs 3).1).Min))) = false from (decide_eq_false (by have := hb.2.2.2.2.2.2.2.1 _ (List.getElem_mem (by omega : k < xs.length)); omega))))) (op_move v11 (f3.trans q36_3) (kS hj88 rfl))
          · rintro ρ89 w90 hj91 ⟨f10, f65, _⟩
            have hst := hj91.2
            exact go_yes 65 rfl (f65.trans (congrArg Value.bool (show (decide (((xs[k]'(by first | omega | (simp only [List.length_set]; omega))).V) < (((allA xs 3).1).Min))) = false from (decide_eq_false (by have := hb.2.2.2.2.2.2.2.1 _ (List.getElem_mem (by omega : k < xs.length)); omega))))) (op_move (.int .i64 (k : Int)) (f10.trans q36_10) (kS hj91 rfl))
          · rintro ρ92 w93 hj94 ⟨f66, f67, f65, _⟩
            have hst := hj94.2
            refine go_yes 65 rfl (f65.trans (congrArg Value.bool (show (decide (((xs[k]'(by first | omega | (simp only [List.length_set]; omega))).V) < (((allA xs 3).1).Min))) = false from (decide_eq_false (by have := hb.2.2.2.2.2.2.2.1 _ (List.getElem_mem (by omega : k < xs.length)); omega))))) (op_indexAddrN (E := sampE) (xs := xs) k Try.underlying22 Try.sizeOf32 f66 (hst.sl 1 rfl) f67 (by omega) (by first | omega | (simp only [List.length_set]; omega)) (fun a95 o96 p97 => ?_))
            exact kS hj94 ⟨_, _, rfl, p97⟩
          · rintro ρ98 w99 hj100 ⟨f68, f65, _⟩
            have hst := hj100.2
            obtain ⟨a101, o102, e103, p104⟩ := f68
            exact go_yes 65 rfl (f65.trans (congrArg Value.bool (show (decide (((xs[k]'(by first | omega | (simp only [List.length_set]; omega))).V) < (((allA xs 3).1).Min))) = false from (decide_eq_false (by have := hb.2.2.2.2.2.2.2.1 _ (List.getElem_mem (by omega : k < xs.length)); omega))))) (op_fieldAddr (s := 0) Try.underlying32 rfl rfl Try.sizeOf2 e103 (kS hj100 ⟨_, _, rfl, (p104.drop 1)⟩))
          · rintro ρ105 w106 hj107 ⟨f69, f65, _⟩
            have hst := hj107.2
            obtain ⟨a108, o109, e110, p111⟩ := f69
            exact go_yes 65 rfl (f65.trans (congrArg Value.bool (show (decide (((xs[k]'(by first | omega | (simp only [List.length_set]; omega))).V) < (((allA xs 3).1).Min))) = false from (decide_eq_false (by have := hb.2.2.2.2.2.2.2.1 _ (List.getElem_mem (by omega : k < xs.length)); omega))))) (op_load1 (u := (.int .i64 ((xs[k]'(by first | omega | (simp only [List.length_set]; omega))).V))) Try.isAgg2 e110 p111 (kS hj107 rfl))
          · rintro ρ112 w113 hj114 ⟨f6, f65, _⟩
            have hst := hj114.2
            exact go_yes 65 rfl (f65.trans (congrArg Value.bool (show (decide (((xs[k]'(by first | omega | (simp only [List.length_set]; omega))).V) < (((allA xs 3).1).Min))) = false from (decide_eq_false (by have := hb.2.2.2.2.2.2.2.1 _ (List.getElem_mem (by omega : k < xs.length)); omega))))) (op_fieldAddr (s := 0) Try.underlying26 rfl rfl Try.sizeOf2 (f6.trans q36_6) (kS hj114 rfl))
          · rintro ρ115 w116 hj117 ⟨f71, f65, _⟩
            have hst := hj117.2
            exact go_yes 65 rfl (f65.trans (congrArg Value.bool (show (decide (((xs[k]'(by first | omega | (simp only [List.length_set]; omega))).V) < (((allA xs 3).1).Min))) = false from (decide_eq_false (by have := hb.2.2.2.2.2.2.2.1 _ (List.getElem_mem (by omega : k < xs.length)); omega))))) (op_load1 (u := (.int .i64 (((allA xs 3).1).Max))) Try.isAgg2 f71 ((hst.cell 0 rfl).drop 4) (kS hj117 rfl))
          · rintro ρ118 w119 hj120 ⟨f70, f72, f65, _⟩
            have hst := hj120.2
            exact go_yes 65 rfl (f65.trans (congrArg Value.bool (show (decide (((xs[k]'(by first | omega | (simp only [List.length_set]; omega))).V) < (((allA xs 3).1).Min))) = false from (decide_eq_false (by have := hb.2.2.2.2.2.2.2.1 _ (List.getElem_mem (by omega : k < xs.length)); omega))))) (op_gtr (k := .i64) (a := (xs[k]'(by first | omega | (simp only [List.length_set]; omega))).V) (b := ((allA xs 3).1).Max) f70 f72 (kS hj120 rfl))
          · rintro ρ121 w122 hj123 ⟨f65, f73, _⟩
            have hst := hj123.2
            exact go_plain (op_pick_f (.bool (decide ((((allA xs 3).1).Max) < ((xs[k]'(by first | omega | (simp only [List.length_set]; omega))).V)))) (f65.trans (congrArg Value.bool (show (decide (((xs[k]'(by first | omega | (simp only [List.length_set]; omega))).V) < (((allA xs 3).1).Min))) = false from (decide_eq_false (by have := hb.2.2.2.2.2.2.2.1 _ (List.getElem_mem (by omega : k < xs.length)); omega))))) f73 (kS hj123 rfl))
          · intro ρ124 w125 hbw125 hst hRw125 hkw125
            have uw125_0 : ρ124 0 = v_l := (hkw125 0 rfl).trans q36_0
            have uw125_11 : ρ124 11 = v_l := (hkw125 11 rfl).trans q36_11
            have uw125_12 : ρ124 12 = (.int .i64 (l.length : Int)) := (hkw125 12 rfl).trans q36_12
            have uw125_13 : ρ124 13 = (.bool (decide ((l.length : Int) < 1))) := (hkw125 13 rfl).trans q36_13
            have uw125_14 : ρ124 14 = (.bool (decide ((l.length : Int) < 1))) := (hkw125 14 rfl).trans q36_14
            have uw125_15 : ρ124 15 = v_l := (hkw125 15 rfl).trans q36_15
            have uw125_16 : ρ124 16 = (.int .i64 (l.length : Int)) := (hkw125 16 rfl).trans q36_16
            have uw125_17 : ρ124 17 = (.bool (decide (60 < (l.length : Int)))) := (hkw125 17 rfl).trans q36_17
            have uw125_18 : ρ124 18 = (.bool (decide (60 < (l.length : Int)))) := (hkw125 18 rfl).trans q36_18
            have uw125_21 : ρ124 21 = v_l := (hkw125 21 rfl).trans q36_21
            have uw125_22 : ρ124 22 = v11 := (hkw125 22 rfl).trans q36_22
            have uw125_5 : ρ124 5 = (.int .i64 (i : Int)) := (hkw125 5 rfl).trans q36_5
            have uw125_4 : ρ124 4 = (.int .i64 (sumS (xs.take i))) := (hkw125 4 rfl).trans q36_4
            have uw125_3 : ρ124 3 = v11 := (hkw125 3 rfl).trans q36_3
            have uw125_23 : ρ124 23 = (.int .i64 (i : Int)) := (hkw125 23 rfl).trans q36_23
            have uw125_24 : ρ124 24 = v11 := (hkw125 24 rfl).trans q36_24
            have uw125_25 : ρ124 25 = (.int .i64 (xs.length : Int)) := (hkw125 25 rfl).trans q36_25
            have uw125_26 : ρ124 26 = (.bool (decide ((i : Int) < (xs.length : Int)))) := (hkw125 26 rfl).trans q36_26
            have uw125_47 : ρ124 47 = v11 := (hkw125 47 rfl).trans q36_47
            have uw125_48 : ρ124 48 = (.tuple #[(.agg #[(.int .i64 (((allA xs 3).1).From)), (.int .i64 (((allA xs 3).1).Count)), (.int .i64 (((allA xs 3).1).Sum)), (.int .i64 (((allA xs 3).1).Min)), (.int .i64 (((allA xs 3).1).Max)), (.int .i64 (((allA xs 3).1).First)), (.int .i64 (((allA xs 3).1).Last))]), (.int .i64 ((allA xs 3).2))]) := (hkw125 48 rfl).trans q36_48
            have uw125_46 : ρ124 46 = (.tuple #[(.agg #[(.int .i64 (((allA xs 3).1).From)), (.int .i64 (((allA xs 3).1).Count)), (.int .i64 (((allA xs 3).1).Sum)), (.int .i64 (((allA xs 3).1).Min)), (.int .i64 (((allA xs 3).1).Max)), (.int .i64 (((allA xs 3).1).First)), (.int .i64 (((allA xs 3).1).Last))]), (.int .i64 ((allA xs 3).2))]) := (hkw125 46 rfl).trans q36_46
            have uw125_49 : ρ124 49 = (.agg #[(.int .i64 (((allA xs 3).1).From)), (.int .i64 (((allA xs 3).1).Count)), (.int .i64 (((allA xs 3).1).Sum)), (.int .i64 (((allA xs 3).1).Min)), (.int .i64 (((allA xs 3).1).Max)), (.int .i64 (((allA xs 3).1).First)), (.int .i64 (((allA xs 3).1).Last))]) := (hkw125 49 rfl).trans q36_49
            have uw125_50 : ρ124 50 = (.int .i64 ((allA xs 3).2)) := (hkw125 50 rfl).trans q36_50
            have uw125_6 : ρ124 6 = (.pointer (some ⟨g33, 0, none⟩)) := (hkw125 6 rfl).trans q36_6
            have uw125_7 : ρ124 7 = (.int .i64 ((allA xs 3).2)) := (hkw125 7 rfl).trans q36_7
            have uw125_10 : ρ124 10 = (.int .i64 (k : Int)) := (hkw125 10 rfl).trans q36_10
            have uw125_8 : ρ124 8 = (.bool lo) := (hkw125 8 rfl).trans q36_8
            have uw125_9 : ρ124 9 = (.bool hg) := (hkw125 9 rfl).trans q36_9
            have uw125_51 : ρ124 51 = (.int .i64 (k : Int)) := (hkw125 51 rfl).trans rfl
            have uw125_52 : ρ124 52 = v11 := (hkw125 52 rfl).trans rfl
            have uw125_53 : ρ124 53 = (.int .i64 (xs.length : Int)) := (hkw125 53 rfl).trans rfl
            have uw125_54 : ρ124 54 = (.bool (decide ((k : Int) < (xs.length : Int)))) := (hkw125 54 rfl).trans rfl
            have uw125_74 : ρ124 74 = (.bool (decide ((((allA xs 3).1).Max) < ((xs[k]'(by first | omega | (simp only [List.length_set]; omega))).V)))) := hRw125 17 74 rfl
            refine then_n ?_
            refine cE_cond false (uw125_74.trans (congrArg Value.bool (show (decide ((((allA xs 3).1).Max) < ((xs[k]'(by first | omega | (simp only [List.length_set]; omega))).V))) = false from (decide_eq_false (by have := hb.2.2.2.2.2.2.2.1 _ (List.getElem_mem (by omega : k < xs.length)); omega))))) (fun h => by cases h) (fun _ => ?_)
            refine cE_skip ?_
            refine then_n ?_
            rcases Bool.eq_false_or_eq_true lo with b126 | b126
            · rcases Bool.eq_false_or_eq_true hg with b127 | b127
              · refine cE_regionL hst [[(8, none)], [(75, some 0)], [(3, none), (76, some 1)], [(10, none), (76, some 1)], [(77, some 2), (78, some 3), (76, some 1)], [(79, some 4), (76, some 1)], [(80, some 5), (76, some 1)], [(6, none), (76, some 1)], [(82, some 7), (76, some 1)], [(81, some 6), (83, some 8), (76, some 1)], [(76, some 1), (84, some 9)], [(9, none)], [(86, some 11)], [(3, none), (87, some 12)], [(10, none), (87, some 12)], [(88, some 13), (89, some 14), (87, some 12)], [(90, some 15), (87, some 12)], [(91, some 16), (87, some 12)], [(6, none), (87, some 12)], [(93, some 18), (87, some 12)], [(92, some 17), (94, some 19), (87, some 12)], [(87, some 12), (95, some 20)], [(85, some 10)], [(96, some 21)]] [(rEq (.bool lo)), (rEq (.bool lo)), (rEq undef), (rEq undef), (rEq undef), (rEq undef), (rEq undef), (rEq undef), (rEq undef), (rEq undef), (rEq (.bool true)), (rEq (.bool hg)), (rEq (.bool hg)), (rEq undef), (rEq undef), (rEq undef), (rEq undef), (rEq undef), (rEq undef), (rEq undef), (rEq undef), (rEq (.bool true)), (rEq (.bool true)), (rEq (.bool true))] (by kernel_rfl) rfl (by kernel_rfl) ⟨sEq, sEq, sEq, sEq, sEq, sEq, sEq, sEq, sEq, sEq, sEq, sEq, sEq, sEq, sEq, sEq, sEq, sEq, sEq, sEq, sEq, sEq, sEq, sEq, trivial⟩ ⟨?_, ?_, ?_, ?_, ?_, ?_, ?_, ?_, ?_, ?_, ?_, ?_, ?_, ?_, ?_, ?_, ?_, ?_, ?_, ?_, ?_, ?_, ?_, ?_, trivial⟩ ?_
                · rintro ρ128 w129 hj130 ⟨f8, _⟩
                  have hst := hj130.2
                  exact go_plain (op_move (.bool lo) (f8.trans uw125_8) (kS hj130 rfl))
                · rintro ρ131 w132 hj133 ⟨f75, _⟩
                  have hst := hj133.2
                  exact go_plain (op_move (.bool lo) f75 (kS hj133 rfl))
                · rintro ρ134 w135 hj136 ⟨f3, f76, _⟩
                  have hst := hj136.2
                  exact go_no 76 rfl (f76.trans (congrArg Value.bool b126)) (kS hj136 rfl)
                · rintro ρ137 w138 hj139 ⟨f10, f76, _⟩
                  have hst := hj139.2
                  exact go_no 76 rfl (f76.trans (congrArg Value.bool b126)) (kS hj139 rfl)
                · rintro ρ140 w141 hj142 ⟨f77, f78, f76, _⟩
                  have hst := hj142.2
                  exact go_no 76 rfl (f76.trans (congrArg Value.bool b126)) (kS hj142 rfl)
                · rintro ρ143 w144 hj145 ⟨f79, f76, _⟩
                  have hst := hj145.2
                  exact go_no 76 rfl (f76.trans (congrArg Value.bool b126)) (kS hj145 rfl)
                · rintro ρ146 w147 hj148 ⟨f80, f76, _⟩
                  have hst := hj148.2
                  exact go_no 76 rfl (f76.trans (congrArg Value.bool b126)) (kS hj148 rfl)
                · rintro ρ149 w150 hj151 ⟨f6, f76, _⟩
                  have hst := hj151.2
                  exact go_no 76 rfl (f76.trans (congrArg Value.bool b126)) (kS hj151 rfl)
                · rintro ρ152 w153 hj154 ⟨f82, f76, _⟩
                  have hst := hj154.2
                  exact go_no 76 rfl (f76.trans (congrArg Value.bool b126)) (kS hj154 rfl)
                · rintro ρ155 w156 hj157 ⟨f81, f83, f76, _⟩
                  have hst := hj157.2
                  exact go_no 76 rfl (f76.trans (congrArg Value.bool b126)) (kS hj157 rfl)
                · rintro ρ158 w159 hj160 ⟨f76, f84, _⟩
                  have hst := hj160.2
                  exact go_plain (op_pick_t (.bool true) (f76.trans (congrArg Value.bool b126)) rfl (kS hj160 rfl))
                · rintro ρ161 w162 hj163 ⟨f9, _⟩
                  have hst := hj163.2
                  exact go_plain (op_move (.bool hg) (f9.trans uw125_9) (kS hj163 rfl))
                · rintro ρ164 w165 hj166 ⟨f86, _⟩
                  have hst := hj166.2
                  exact go_plain (op_move (.bool hg) f86 (kS hj166 rfl))
                · rintro ρ167 w168 hj169 ⟨f3, f87, _⟩
                  have hst := hj169.2
                  exact go_no 87 rfl (f87.trans (congrArg Value.bool b127)) (kS hj169 rfl)
                · rintro ρ170 w171 hj172 ⟨f10, f87, _⟩
                  have hst := hj172.2
                  exact go_no 87 rfl (f87.trans (congrArg Value.bool b127)) (kS hj172 rfl)
                · rintro ρ173 w174 hj175 ⟨f88, f89, f87, _⟩
                  have hst := hj175.2
                  exact go_no 87 rfl (f87.trans (congrArg Value.bool b127)) (kS hj175 rfl)
                · rintro ρ176 w177 hj178 ⟨f90, f87, _⟩
                  have hst := hj178.2
                  exact go_no 87 rfl (f87.trans (congrArg Value.bool b127)) (kS hj178 rfl)
                · rintro ρ179 w180 hj181 ⟨f91, f87, _⟩
                  have hst := hj181.2
                  exact go_no 87 rfl (f87.trans (congrArg Value.bool b127)) (kS hj181 rfl)
                · rintro ρ182 w183 hj184 ⟨f6, f87, _⟩
                  have hst := hj184.2
                  exact go_no 87 rfl (f87.trans (congrArg Value.bool b127)) (kS hj184 rfl)
                · rintro ρ185 w186 hj187 ⟨f93, f87, _⟩
                  have hst := hj187.2
                  exact go_no 87 rfl (f87.trans (congrArg Value.bool b127)) (kS hj187 rfl)
                · rintro ρ188 w189 hj190 ⟨f92, f94, f87, _⟩
                  have hst := hj190.2
                  exact go_no 87 rfl (f87.trans (congrArg Value.bool b127)) (kS hj190 rfl)
                · rintro ρ191 w192 hj193 ⟨f87, f95, _⟩
                  have hst := hj193.2
                  exact go_plain (op_pick_t (.bool true) (f87.trans (congrArg Value.bool b127)) rfl (kS hj193 rfl))
                · rintro ρ194 w195 hj196 ⟨f85, _⟩
                  have hst := hj196.2
                  exact go_plain (op_assign (.bool true) f85 (kS hj196 rfl))
                · rintro ρ197 w198 hj199 ⟨f96, _⟩
                  have hst := hj199.2
                  exact go_plain (op_assign (.bool true) f96 (kS hj199 rfl))
                · intro ρ200 w201 hbw201 hst hRw201 hkw201
                  have uw201_0 : ρ200 0 = v_l := (hkw201 0 rfl).trans uw125_0
                  have uw201_11 : ρ200 11 = v_l := (hkw201 11 rfl).trans uw125_11
                  have uw201_12 : ρ200 12 = (.int .i64 (l.length : Int)) := (hkw201 12 rfl).trans uw125_12
                  have uw201_13 : ρ200 13 = (.bool (decide ((l.length : Int) < 1))) := (hkw201 13 rfl).trans uw125_13
                  have uw201_14 : ρ200 14 = (.bool (decide ((l.length : Int) < 1))) := (hkw201 14 rfl).trans uw125_14
                  have uw201_15 : ρ200 15 = v_l := (hkw201 15 rfl).trans uw125_15
                  have uw201_16 : ρ200 16 = (.int .i64 (l.length : Int)) := (hkw201 16 rfl).trans uw125_16
                  have uw201_17 : ρ200 17 = (.bool (decide (60 < (l.length : Int)))) := (hkw201 17 rfl).trans uw125_17
                  have uw201_18 : ρ200 18 = (.bool (decide (60 < (l.length : Int)))) := (hkw201 18 rfl).trans uw125_18
                  have uw201_21 : ρ200 21 = v_l := (hkw201 21 rfl).trans uw125_21
                  have uw201_22 : ρ200 22 = v11 := (hkw201 22 rfl).trans uw125_22
                  have uw201_5 : ρ200 5 = (.int .i64 (i : Int)) := (hkw201 5 rfl).trans uw125_5
                  have uw201_4 : ρ200 4 = (.int .i64 (sumS (xs.take i))) := (hkw201 4 rfl).trans uw125_4
                  have uw201_3 : ρ200 3 = v11 := (hkw201 3 rfl).trans uw125_3
                  have uw201_23 : ρ200 23 = (.int .i64 (i : Int)) := (hkw201 23 rfl).trans uw125_23
                  have uw201_24 : ρ200 24 = v11 := (hkw201 24 rfl).trans uw125_24
                  have uw201_25 : ρ200 25 = (.int .i64 (xs.length : Int)) := (hkw201 25 rfl).trans uw125_25
                  have uw201_26 : ρ200 26 = (.bool (decide ((i : Int) < (xs.length : Int)))) := (hkw201 26 rfl).trans uw125_26
                  have uw201_47 : ρ200 47 = v11 := (hkw201 47 rfl).trans uw125_47
                  have uw201_48 : ρ200 48 = (.tuple #[(.agg #[(.int .i64 (((allA xs 3).1).From)), (.int .i64 (((allA xs 3).1).Count)), (.int .i64 (((allA xs 3).1).Sum)), (.int .i64 (((allA xs 3).1).Min)), (.int .i64 (((allA xs 3).1).Max)), (.int .i64 (((allA xs 3).1).First)), (.int .i64 (((allA xs 3).1).Last))]), (.int .i64 ((allA xs 3).2))]) := (hkw201 48 rfl).trans uw125_48
                  have uw201_46 : ρ200 46 = (.tuple #[(.agg #[(.int .i64 (((allA xs 3).1).From)), (.int .i64 (((allA xs 3).1).Count)), (.int .i64 (((allA xs 3).1).Sum)), (.int .i64 (((allA xs 3).1).Min)), (.int .i64 (((allA xs 3).1).Max)), (.int .i64 (((allA xs 3).1).First)), (.int .i64 (((allA xs 3).1).Last))]), (.int .i64 ((allA xs 3).2))]) := (hkw201 46 rfl).trans uw125_46
                  have uw201_49 : ρ200 49 = (.agg #[(.int .i64 (((allA xs 3).1).From)), (.int .i64 (((allA xs 3).1).Count)), (.int .i64 (((allA xs 3).1).Sum)), (.int .i64 (((allA xs 3).1).Min)), (.int .i64 (((allA xs 3).1).Max)), (.int .i64 (((allA xs 3).1).First)), (.int .i64 (((allA xs 3).1).Last))]) := (hkw201 49 rfl).trans uw125_49
                  have uw201_50 : ρ200 50 = (.int .i64 ((allA xs 3).2)) := (hkw201 50 rfl).trans uw125_50
                  have uw201_6 : ρ200 6 = (.pointer (some ⟨g33, 0, none⟩)) := (hkw201 6 rfl).trans uw125_6
                  have uw201_7 : ρ200 7 = (.int .i64 ((allA xs 3).2)) := (hkw201 7 rfl).trans uw125_7
                  have uw201_10 : ρ200 10 = (.int .i64 (k : Int)) := (hkw201 10 rfl).trans uw125_10
                  have uw201_51 : ρ200 51 = (.int .i64 (k : Int)) := (hkw201 51 rfl).trans uw125_51
                  have uw201_52 : ρ200 52 = v11 := (hkw201 52 rfl).trans uw125_52
                  have uw201_53 : ρ200 53 = (.int .i64 (xs.length : Int)) := (hkw201 53 rfl).trans uw125_53
                  have uw201_54 : ρ200 54 = (.bool (decide ((k : Int) < (xs.length : Int)))) := (hkw201 54 rfl).trans uw125_54
                  have uw201_74 : ρ200 74 = (.bool (decide ((((allA xs 3).1).Max) < ((xs[k]'(by first | omega | (simp only [List.length_set]; omega))).V)))) := (hkw201 74 rfl).trans uw125_74
                  have uw201_8 : ρ200 8 = (.bool true) := hRw201 22 8 rfl
                  have uw201_9 : ρ200 9 = (.bool true) := hRw201 23 9 rfl
                  refine block_n (then_n ?_)
                  refine cE_region rfl ?_
                  refine s_cons (op_move (.int .i64 (k : Int)) uw201_10 ?_)
                  refine s_cons (op_add (k := .i64) (a := (k : Int)) (b := 1) ((k : Int) + 1) rfl rfl (xi64 (by omega) (by omega)) ?_)
                  refine s_cons (op_assign (.int .i64 ((k : Int) + 1)) rfl ?_)
                  refine s_nil ?_
                  refine then_n ?_
                  exact ⟨_, ⟨(k + 1), true, true, rfl, uw201_0, uw201_11, uw201_12, uw201_13, uw201_14, uw201_15, uw201_16, uw201_17, uw201_18, uw201_21, uw201_22, uw201_5, uw201_4, uw201_3, uw201_23, uw201_24, uw201_25, uw201_26, uw201_47, uw201_48, uw201_46, uw201_49, uw201_50, uw201_6, uw201_7, (congrArg (Value.int .i64) (show ((k : Int) + 1) = _ from by omega)), uw201_8, uw201_9, hst, (by omega), (by first | exact seen_start | exact seen_true | exact seen_next (by omega) hlo (by assumption)), (by first | exact seen_start | exact seen_true | exact seen_next (by omega) hhg (by assumption))⟩, (by simp only [id]; omega)⟩
              · refine cE_regionL hst [[(8, none)], [(75, some 0)], [(3, none), (76, some 1)], [(10, none), (76, some 1)], [(77, some 2), (78, some 3), (76, some 1)], [(79, some 4), (76, some 1)], [(80, some 5), (76, some 1)], [(6, none), (76, some 1)], [(82, some 7), (76, some 1)], [(81, some 6), (83, some 8), (76, some 1)], [(76, some 1), (84, some 9)], [(9, none)], [(86, some 11)], [(3, none), (87, some 12)], [(10, none), (87, some 12)], [(88, some 13), (89, some 14), (87, some 12)], [(90, some 15), (87, some 12)], [(91, some 16), (87, some 12)], [(6, none), (87, some 12)], [(93, some 18), (87, some 12)], [(92, some 17), (94, some 19), (87, some 12)], [(87, some 12), (95, some 20)], [(85, some 10)], [(96, some 21)]] [(rEq (.bool lo)), (rEq (.bool lo)), (rEq undef), (rEq undef), (rEq undef), (rEq undef), (rEq undef), (rEq undef), (rEq undef), (rEq undef), (rEq (.bool true)), (rEq (.bool hg)), (rEq (.bool hg)), (rEq v11), (rEq (.int .i64 (k : Int))), (rPt [(.int .i64 ((xs[k]'(by first | omega | (simp only [List.length_set]; omega))).T)), (.int .i64 ((xs[k]'(by first | omega | (simp only [List.length_set]; omega))).V))]), (rPt [(.int .i64 ((xs[k]'(by first | omega | (simp only [List.length_set]; omega))).V))]), (rEq (.int .i64 ((xs[k]'(by first | omega | (simp only [List.length_set]; omega))).V))), (rEq (.pointer (some ⟨g33, (0 + 4), none⟩))), (rEq (.int .i64 (((allA xs 3).1).Max))), (rEq (.bool (decide (((xs[k]'(by first | omega | (simp only [List.length_set]; omega))).V) = (((allA xs 3).1).Max))))), (rEq (.bool (decide (((xs[k]'(by first | omega | (simp only [List.length_set]; omega))).V) = (((allA xs 3).1).Max))))), (rEq (.bool true)), (rEq (.bool (decide (((xs[k]'(by first | omega | (simp only [List.length_set]; omega))).V) = (((allA xs 3).1).Max)))))] (by kernel_rfl) rfl (by kernel_rfl) ⟨sEq, sEq, sEq, sEq, sEq, sEq, sEq, sEq, sEq, sEq, sEq, sEq, sEq, sEq, sEq, sPt, sPt, sEq, sEq, sEq, sEq, sEq, sEq, sEq, trivial⟩ ⟨?_, ?_, ?_, ?_, ?_, ?_, ?_, ?_, ?_, ?_, ?_, ?_, ?_, ?_, ?_, ?_, ?_, ?_, ?_, ?_, ?_, ?_, ?_, ?_, trivial⟩ ?_
                · rintro ρ205 w206 hj207 ⟨f8, _⟩
                  have hst := hj207.2
                  exact go_plain (op_move (.bool lo) (f8.trans uw125_8) (kS hj207 rfl))
                · rintro ρ208 w209 hj210 ⟨f75, _⟩
                  have hst := hj210.2
                  exact go_plain (op_move (.bool lo) f75 (kS hj210 rfl))
                · rintro ρ211 w212 hj213 ⟨f3, f76, _⟩
                  have hst := hj213.2
                  exact go_no 76 rfl (f76.trans (congrArg Value.bool b126)) (kS hj213 rfl)
                · rintro ρ214 w215 hj216 ⟨f10, f76, _⟩
                  have hst := hj216.2
                  exact go_no 76 rfl (f76.trans (congrArg Value.bool b126)) (kS hj216 rfl)
                · rintro ρ217 w218 hj219 ⟨f77, f78, f76, _⟩
                  have hst := hj219.2
                  exact go_no 76 rfl (f76.trans (congrArg Value.bool b126)) (kS hj219 rfl)
                · rintro ρ220 w221 hj222 ⟨f79, f76, _⟩
                  have hst := hj222.2
                  exact go_no 76 rfl (f76.trans (congrArg Value.bool b126)) (kS hj222 rfl)
                · rintro ρ223 w224 hj225 ⟨f80, f76, _⟩
                  have hst := hj225.2
                  exact go_no 76 rfl (f76.trans (congrArg Value.bool b126)) (kS hj225 rfl)
                · rintro ρ226 w227 hj228 ⟨f6, f76, _⟩
                  have hst := hj228.2
                  exact go_no 76 rfl (f76.trans (congrArg Value.bool b126)) (kS hj228 rfl)
                · rintro ρ229 w230 hj231 ⟨f82, f76, _⟩
                  have hst := hj231.2
                  exact go_no 76 rfl (f76.trans (congrArg Value.bool b126)) (kS hj231 rfl)
                · rintro ρ232 w233 hj234 ⟨f81, f83, f76, _⟩
                  have hst := hj234.2
                  exact go_no 76 rfl (f76.trans (congrArg Value.bool b126)) (kS hj234 rfl)
                · rintro ρ235 w236 hj237 ⟨f76, f84, _⟩
                  have hst := hj237.2
                  exact go_plain (op_pick_t (.bool true) (f76.trans (congrArg Value.bool b126)) rfl (kS hj237 rfl))
                · rintro ρ238 w239 hj240 ⟨f9, _⟩
                  have hst := hj240.2
                  exact go_plain (op_move (.bool hg) (f9.trans uw125_9) (kS hj240 rfl))
                · rintro ρ241 w242 hj243 ⟨f86, _⟩
                  have hst := hj243.2
                  exact go_plain (op_move (.bool hg) f86 (kS hj243 rfl))
                · rintro ρ244 w245 hj246 ⟨f3, f87, _⟩
                  have hst := hj246.2
                  exact go_yes 87 rfl (f87.trans (congrArg Value.bool b127)) (op_move v11 (f3.trans uw125_3) (kS hj246 rfl))
                · rintro ρ247 w248 hj249 ⟨f10, f87, _⟩
                  have hst := hj249.2
                  exact go_yes 87 rfl (f87.trans (congrArg Value.bool b127)) (op_move (.int .i64 (k : Int)) (f10.trans uw125_10) (kS hj249 rfl))
                · rintro ρ250 w251 hj252 ⟨f88, f89, f87, _⟩
                  have hst := hj252.2
                  refine go_yes 87 rfl (f87.trans (congrArg Value.bool b127)) (op_indexAddrN (E := sampE) (xs := xs) k Try.underlying22 Try.sizeOf32 f88 (hst.sl 1 rfl) f89 (by omega) (by first | omega | (simp only [List.length_set]; omega)) (fun a253 o254 p255 => ?_))
                  exact kS hj252 ⟨_, _, rfl, p255⟩
                · rintro ρ256 w257 hj258 ⟨f90, f87, _⟩
                  have hst := hj258.2
                  obtain ⟨a259, o260, e261, p262⟩ := f90
                  exact go_yes 87 rfl (f87.trans (congrArg Value.bool b127)) (op_fieldAddr (s := 0) Try.underlying32 rfl rfl Try.sizeOf2 e261 (kS hj258 ⟨_, _, rfl, (p262.drop 1)⟩))
                · rintro ρ263 w264 hj265 ⟨f91, f87, _⟩
                  have hst := hj265.2
                  obtain ⟨a266, o267, e268, p269⟩ := f91
                  exact go_yes 87 rfl (f87.trans (congrArg Value.bool b127)) (op_load1 (u := (.int .i64 ((xs[k]'(by first | omega | (simp only [List.length_set]; omega))).V))) Try.isAgg2 e268 p269 (kS hj265 rfl))
                · rintro ρ270 w271 hj272 ⟨f6, f87, _⟩
                  have hst := hj272.2
                  exact go_yes 87 rfl (f87.trans (congrArg Value.bool b127)) (op_fieldAddr (s := 0) Try.underlying26 rfl rfl Try.sizeOf2 (f6.trans uw125_6) (kS hj272 rfl))
                · rintro ρ273 w274 hj275 ⟨f93, f87, _⟩
                  have hst := hj275.2
                  exact go_yes 87 rfl (f87.trans (congrArg Value.bool b127)) (op_load1 (u := (.int .i64 (((allA xs 3).1).Max))) Try.isAgg2 f93 ((hst.cell 0 rfl).drop 4) (kS hj275 rfl))
                · rintro ρ276 w277 hj278 ⟨f92, f94, f87, _⟩
                  have hst := hj278.2
                  exact go_yes 87 rfl (f87.trans (congrArg Value.bool b127)) (op_eql (k := .i64) (a := (xs[k]'(by first | omega | (simp only [List.length_set]; omega))).V) (b := ((allA xs 3).1).Max) f92 f94 (kS hj278 rfl))
                · rintro ρ279 w280 hj281 ⟨f87, f95, _⟩
                  have hst := hj281.2
                  exact go_plain (op_pick_f (.bool (decide (((xs[k]'(by first | omega | (simp only [List.length_set]; omega))).V) = (((allA xs 3).1).Max)))) (f87.trans (congrArg Value.bool b127)) f95 (kS hj281 rfl))
                · rintro ρ282 w283 hj284 ⟨f85, _⟩
                  have hst := hj284.2
                  exact go_plain (op_assign (.bool true) f85 (kS hj284 rfl))
                · rintro ρ285 w286 hj287 ⟨f96, _⟩
                  have hst := hj287.2
                  exact go_plain (op_assign (.bool (decide (((xs[k]'(by first | omega | (simp only [List.length_set]; omega))).V) = (((allA xs 3).1).Max)))) f96 (kS hj287 rfl))
                · intro ρ288 w289 hbw289 hst hRw289 hkw289
                  have uw289_0 : ρ288 0 = v_l := (hkw289 0 rfl).trans uw125_0
                  have uw289_11 : ρ288 11 = v_l := (hkw289 11 rfl).trans uw125_11
                  have uw289_12 : ρ288 12 = (.int .i64 (l.length : Int)) := (hkw289 12 rfl).trans uw125_12
                  have uw289_13 : ρ288 13 = (.bool (decide ((l.length : Int) < 1))) := (hkw289 13 rfl).trans uw125_13
                  have uw289_14 : ρ288 14 = (.bool (decide ((l.length : Int) < 1))) := (hkw289 14 rfl).trans uw125_14
                  have uw289_15 : ρ288 15 = v_l := (hkw289 15 rfl).trans uw125_15
                  have uw289_16 : ρ288 16 = (.int .i64 (l.length : Int)) := (hkw289 16 rfl).trans uw125_16
                  have uw289_17 : ρ288 17 = (.bool (decide (60 < (l.length : Int)))) := (hkw289 17 rfl).trans uw125_17
                  have uw289_18 : ρ288 18 = (.bool (decide (60 < (l.length : Int)))) := (hkw289 18 rfl).trans uw125_18
                  have uw289_21 : ρ288 21 = v_l := (hkw289 21 rfl).trans uw125_21
                  have uw289_22 : ρ288 22 = v11 := (hkw289 22 rfl).trans uw125_22
                  have uw289_5 : ρ288 5 = (.int .i64 (i : Int)) := (hkw289 5 rfl).trans uw125_5
                  have uw289_4 : ρ288 4 = (.int .i64 (sumS (xs.take i))) := (hkw289 4 rfl).trans uw125_4
                  have uw289_3 : ρ288 3 = v11 := (hkw289 3 rfl).trans uw125_3
                  have uw289_23 : ρ288 23 = (.int .i64 (i : Int)) := (hkw289 23 rfl).trans uw125_23
                  have uw289_24 : ρ288 24 = v11 := (hkw289 24 rfl).trans uw125_24
                  have uw289_25 : ρ288 25 = (.int .i64 (xs.length : Int)) := (hkw289 25 rfl).trans uw125_25
                  have uw289_26 : ρ288 26 = (.bool (decide ((i : Int) < (xs.length : Int)))) := (hkw289 26 rfl).trans uw125_26
                  have uw289_47 : ρ288 47 = v11 := (hkw289 47 rfl).trans uw125_47
                  have uw289_48 : ρ288 48 = (.tuple #[(.agg #[(.int .i64 (((allA xs 3).1).From)), (.int .i64 (((allA xs 3).1).Count)), (.int .i64 (((allA xs 3).1).Sum)), (.int .i64 (((allA xs 3).1).Min)), (.int .i64 (((allA xs 3).1).Max)), (.int .i64 (((allA xs 3).1).First)), (.int .i64 (((allA xs 3).1).Last))]), (.int .i64 ((allA xs 3).2))]) := (hkw289 48 rfl).trans uw125_48
                  have uw289_46 : ρ288 46 = (.tuple #[(.agg #[(.int .i64 (((allA xs 3).1).From)), (.int .i64 (((allA xs 3).1).Count)), (.int .i64 (((allA xs 3).1).Sum)), (.int .i64 (((allA xs 3).1).Min)), (.int .i64 (((allA xs 3).1).Max)), (.int .i64 (((allA xs 3).1).First)), (.int .i64 (((allA xs 3).1).Last))]), (.int .i64 ((allA xs 3).2))]) := (hkw289 46 rfl).trans uw125_46
                  have uw289_49 : ρ288 49 = (.agg #[(.int .i64 (((allA xs 3).1).From)), (.int .i64 (((allA xs 3).1).Count)), (.int .i64 (((allA xs 3).1).Sum)), (.int .i64 (((allA xs 3).1).Min)), (.int .i64 (((allA xs 3).1).Max)), (.int .i64 (((allA xs 3).1).First)), (.int .i64 (((allA xs 3).1).Last))]) := (hkw289 49 rfl).trans uw125_49
                  have uw289_50 : ρ288 50 = (.int .i64 ((allA xs 3).2)) := (hkw289 50 rfl).trans uw125_50
                  have uw289_6 : ρ288 6 = (.pointer (some ⟨g33, 0, none⟩)) := (hkw289 6 rfl).trans uw125_6
                  have uw289_7 : ρ288 7 = (.int .i64 ((allA xs 3).2)) := (hkw289 7 rfl).trans uw125_7
                  have uw289_10 : ρ288 10 = (.int .i64 (k : Int)) := (hkw289 10 rfl).trans uw125_10
                  have uw289_51 : ρ288 51 = (.int .i64 (k : Int)) := (hkw289 51 rfl).trans uw125_51
                  have uw289_52 : ρ288 52 = v11 := (hkw289 52 rfl).trans uw125_52
                  have uw289_53 : ρ288 53 = (.int .i64 (xs.length : Int)) := (hkw289 53 rfl).trans uw125_53
                  have uw289_54 : ρ288 54 = (.bool (decide ((k : Int) < (xs.length : Int)))) := (hkw289 54 rfl).trans uw125_54
                  have uw289_74 : ρ288 74 = (.bool (decide ((((allA xs 3).1).Max) < ((xs[k]'(by first | omega | (simp only [List.length_set]; omega))).V)))) := (hkw289 74 rfl).trans uw125_74
                  have uw289_8 : ρ288 8 = (.bool true) := hRw289 22 8 rfl
                  have uw289_9 : ρ288 9 = (.bool (decide (((xs[k]'(by first | omega | (simp only [List.length_set]; omega))).V) = (((allA xs 3).1).Max)))) := hRw289 23 9 rfl
                  refine block_n (then_n ?_)
                  refine cE_region rfl ?_
                  refine s_cons (op_move (.int .i64 (k : Int)) uw289_10 ?_)
                  refine s_cons (op_add (k := .i64) (a := (k : Int)) (b := 1) ((k : Int) + 1) rfl rfl (xi64 (by omega) (by omega)) ?_)
                  refine s_cons (op_assign (.int .i64 ((k : Int) + 1)) rfl ?_)
                  refine s_nil ?_
                  refine then_n ?_
                  exact ⟨_, ⟨(k + 1), true, decide (((xs[k]'(by first | omega | (simp only [List.length_set]; omega))).V) = (((allA xs 3).1).Max)), rfl, uw289_0, uw289_11, uw289_12, uw289_13, uw289_14, uw289_15, uw289_16, uw289_17, uw289_18, uw289_21, uw289_22, uw289_5, uw289_4, uw289_3, uw289_23, uw289_24, uw289_25, uw289_26, uw289_47, uw289_48, uw289_46, uw289_49, uw289_50, uw289_6, uw289_7, (congrArg (Value.int .i64) (show ((k : Int) + 1) = _ from by omega)), uw289_8, uw289_9, hst, (by omega), (by first | exact seen_start | exact seen_true | exact seen_next (by omega) hlo (by assumption)), (by first | exact seen_start | exact seen_true | exact seen_next (by omega) hhg (by assumption))⟩, (by simp only [id]; omega)⟩
            · rcases Bool.eq_false_or_eq_true hg with b293 | b293
              · refine cE_regionL hst [[(8, none)], [(75, some 0)], [(3, none), (76, some 1)], [(10, none), (76, some 1)], [(77, some 2), (78, some 3), (76, some 1)], [(79, some 4), (76, some 1)], [(80, some 5), (76, some 1)], [(6, none), (76, some 1)], [(82, some 7), (76, some 1)], [(81, some 6), (83, some 8), (76, some 1)], [(76, some 1), (84, some 9)], [(9, none)], [(86, some 11)], [(3, none), (87, some 12)], [(10, none), (87, some 12)], [(88, some 13), (89, some 14), (87, some 12)], [(90, some 15), (87, some 12)], [(91, some 16), (87, some 12)], [(6, none), (87, some 12)], [(93, some 18), (87, some 12)], [(92, some 17), (94, some 19), (87, some 12)], [(87, some 12), (95, some 20)], [(85, some 10)], [(96, some 21)]] [(rEq (.bool lo)), (rEq (.bool lo)), (rEq v11), (rEq (.int .i64 (k : Int))), (rPt [(.int .i64 ((xs[k]'(by first | omega | (simp only [List.length_set]; omega))).T)), (.int .i64 ((xs[k]'(by first | omega | (simp only [List.length_set]; omega))).V))]), (rPt [(.int .i64 ((xs[k]'(by first | omega | (simp only [List.length_set]; omega))).V))]), (rEq (.int .i64 ((xs[k]'(by first | omega | (simp only [List.length_set]; omega))).V))), (rEq (.pointer (some ⟨g33, (0 + 3), none⟩))), (rEq (.int .i64 (((allA xs 3).1).Min))), (rEq (.bool (decide (((xs[k]'(by first | omega | (simp only [List.length_set]; omega))).V) = (((allA xs 3).1).Min))))), (rEq (.bool (decide (((xs[k]'(by first | omega | (simp only [List.length_set]; omega))).V) = (((allA xs 3).1).Min))))), (rEq (.bool hg)), (rEq (.bool hg)), (rEq undef), (rEq undef), (rEq undef), (rEq undef), (rEq undef), (rEq undef), (rEq undef), (rEq undef), (rEq (.bool true)), (rEq (.bool (decide (((xs[k]'(by first | omega | (simp only [List.length_set]; omega))).V) = (((allA xs 3).1).Min))))), (rEq (.bool true))] (by kernel_rfl) rfl (by kernel_rfl) ⟨sEq, sEq, sEq, sEq, sPt, sPt, sEq, sEq, sEq, sEq, sEq, sEq, sEq, sEq, sEq, sEq, sEq, sEq, sEq, sEq, sEq, sEq, sEq, sEq, trivial⟩ ⟨?_, ?_, ?_, ?_, ?_, ?_, ?_, ?_, ?_, ?_, ?_, ?_, ?_, ?_, ?_, ?_, ?_, ?_, ?_, ?_, ?_, ?_, ?_, ?_, trivial⟩ ?_
                · rintro ρ297 w298 hj299 ⟨f8, _⟩
                  have hst := hj299.2
                  exact go_plain (op_move (.bool lo) (f8.trans uw125_8) (kS hj299 rfl))
                · rintro ρ300 w301 hj302 ⟨f75, _⟩
                  have hst := hj302.2
                  exact go_plain (op_move (.bool lo) f75 (kS hj302 rfl))
                · rintro ρ303 w304 hj305 ⟨f3, f76, _⟩
                  have hst := hj305.2
                  exact go_yes 76 rfl (f76.trans (congrArg Value.bool b126)) (op_move v11 (f3.trans uw125_3) (kS hj305 rfl))
                · rintro ρ306 w307 hj308 ⟨f10, f76, _⟩
                  have hst := hj308.2
                  exact go_yes 76 rfl (f76.trans (congrArg Value.bool b126)) (op_move (.int .i64 (k : Int)) (f10.trans uw125_10) (kS hj308 rfl))
                · rintro ρ309 w310 hj311 ⟨f77, f78, f76, _⟩
                  have hst := hj311.2
                  refine go_yes 76 rfl (f76.trans (congrArg Value.bool b126)) (op_indexAddrN (E := sampE) (xs := xs) k Try.underlying22 Try.sizeOf32 f77 (hst.sl 1 rfl) f78 (by omega) (by first | omega | (simp only [List.length_set]; omega)) (fun a312 o313 p314 => ?_))
                  exact kS hj311 ⟨_, _, rfl, p314⟩
                · rintro ρ315 w316 hj317 ⟨f79, f76, _⟩
                  have hst := hj317.2
                  obtain ⟨a318, o319, e320, p321⟩ := f79
                  exact go_yes 76 rfl (f76.trans (congrArg Value.bool b126)) (op_fieldAddr (s := 0) Try.underlying32 rfl rfl Try.sizeOf2 e320 (kS hj317 ⟨_, _, rfl, (p321.drop 1)⟩))
                · rintro ρ322 w323 hj324 ⟨f80, f76, _⟩
                  have hst := hj324.2
                  obtain ⟨a325, o326, e327, p328⟩ := f80
                  exact go_yes 76 rfl (f76.trans (congrArg Value.bool b126)) (op_load1 (u := (.int .i64 ((xs[k]'(by first | omega | (simp only [List.length_set]; omega))).V))) Try.isAgg2 e327 p328 (kS hj324 rfl))
                · rintro ρ329 w330 hj331 ⟨f6, f76, _⟩
                  have hst := hj331.2
                  exact go_yes 76 rfl (f76.trans (congrArg Value.bool b126)) (op_fieldAddr (s := 0) Try.underlying26 rfl rfl Try.sizeOf2 (f6.trans uw125_6) (kS hj331 rfl))
                · rintro ρ332 w333 hj334 ⟨f82, f76, _⟩
                  have hst := hj334.2
                  exact go_yes 76 rfl (f76.trans (congrArg Value.bool b126)) (op_load1 (u := (.int .i64 (((allA xs 3).1).Min))) Try.isAgg2 f82 ((hst.cell 0 rfl).drop 3) (kS hj334 rfl))
                · rintro ρ335 w336 hj337 ⟨f81, f83, f76, _⟩
                  have hst := hj337.2
                  exact go_yes 76 rfl (f76.trans (congrArg Value.bool b126)) (op_eql (k := .i64) (a := (xs[k]'(by first | omega | (simp only [List.length_set]; omega))).V) (b := ((allA xs 3).1).Min) f81 f83 (kS hj337 rfl))
                · rintro ρ338 w339 hj340 ⟨f76, f84, _⟩
                  have hst := hj340.2
                  exact go_plain (op_pick_f (.bool (decide (((xs[k]'(by first | omega | (simp only [List.length_set]; omega))).V) = (((allA xs 3).1).Min)))) (f76.trans (congrArg Value.bool b126)) f84 (kS hj340 rfl))
                · rintro ρ341 w342 hj343 ⟨f9, _⟩
                  have hst := hj343.2
                  exact go_plain (op_move (.bool hg) (f9.trans uw125_9) (kS hj343 rfl))
                · rintro ρ344 w345 hj346 ⟨f86, _⟩
                  have hst := hj346.2
                  exact go_plain (op_move (.bool hg) f86 (kS hj346 rfl))
                · rintro ρ347 w348 hj349 ⟨f3, f87, _⟩
                  have hst := hj349.2
                  exact go_no 87 rfl (f87.trans (congrArg Value.bool b293)) (kS hj349 rfl)
                · rintro ρ350 w351 hj352 ⟨f10, f87, _⟩
                  have hst := hj352.2
                  exact go_no 87 rfl (f87.trans (congrArg Value.bool b293)) (kS hj352 rfl)
                · rintro ρ353 w354 hj355 ⟨f88, f89, f87, _⟩
                  have hst := hj355.2
                  exact go_no 87 rfl (f87.trans (congrArg Value.bool b293)) (kS hj355 rfl)
                · rintro ρ356 w357 hj358 ⟨f90, f87, _⟩
                  have hst := hj358.2
                  exact go_no 87 rfl (f87.trans (congrArg Value.bool b293)) (kS hj358 rfl)
                · rintro ρ359 w360 hj361 ⟨f91, f87, _⟩
                  have hst := hj361.2
                  exact go_no 87 rfl (f87.trans (congrArg Value.bool b293)) (kS hj361 rfl)
                · rintro ρ362 w363 hj364 ⟨f6, f87, _⟩
                  have hst := hj364.2
                  exact go_no 87 rfl (f87.trans (congrArg Value.bool b293)) (kS hj364 rfl)
                · rintro ρ365 w366 hj367 ⟨f93, f87, _⟩
                  have hst := hj367.2
                  exact go_no 87 rfl (f87.trans (congrArg Value.bool b293)) (kS hj367 rfl)
                · rintro ρ368 w369 hj370 ⟨f92, f94, f87, _⟩
                  have hst := hj370.2
                  exact go_no 87 rfl (f87.trans (congrArg Value.bool b293)) (kS hj370 rfl)
                · rintro ρ371 w372 hj373 ⟨f87, f95, _⟩
                  have hst := hj373.2
                  exact go_plain (op_pick_t (.bool true) (f87.trans (congrArg Value.bool b293)) rfl (kS hj373 rfl))
                · rintro ρ374 w375 hj376 ⟨f85, _⟩
                  have hst := hj376.2
                  exact go_plain (op_assign (.bool (decide (((xs[k]'(by first | omega | (simp only [List.length_set]; omega))).V) = (((allA xs 3).1).Min)))) f85 (kS hj376 rfl))
                · rintro ρ377 w378 hj379 ⟨f96, _⟩
                  have hst := hj379.2
                  exact go_plain (op_assign (.bool true) f96 (kS hj379 rfl))
                · intro ρ380 w381 hbw381 hst hRw381 hkw381
                  have uw381_0 : ρ380 0 = v_l := (hkw381 0 rfl).trans uw125_0
                  have uw381_11 : ρ380 11 = v_l := (hkw381 11 rfl).trans uw125_11
                  have uw381_12 : ρ380 12 = (.int .i64 (l.length : Int)) := (hkw381 12 rfl).trans uw125_12
                  have uw381_13 : ρ380 13 = (.bool (decide ((l.length : Int) < 1))) := (hkw381 13 rfl).trans uw125_13
                  have uw381_14 : ρ380 14 = (.bool (decide ((l.length : Int) < 1))) := (hkw381 14 rfl).trans uw125_14
                  have uw381_15 : ρ380 15 = v_l := (hkw381 15 rfl).trans uw125_15
                  have uw381_16 : ρ380 16 = (.int .i64 (l.length : Int)) := (hkw381 16 rfl).trans uw125_16
                  have uw381_17 : ρ380 17 = (.bool (decide (60 < (l.length : Int)))) := (hkw381 17 rfl).trans uw125_17
                  have uw381_18 : ρ380 18 = (.bool (decide (60 < (l.length : Int)))) := (hkw381 18 rfl).trans uw125_18
                  have uw381_21 : ρ380 21 = v_l := (hkw381 21 rfl).trans uw125_21
                  have uw381_22 : ρ380 22 = v11 := (hkw381 22 rfl).trans uw125_22
                  have uw381_5 : ρ380 5 = (.int .i64 (i : Int)) := (hkw381 5 rfl).trans uw125_5
                  have uw381_4 : ρ380 4 = (.int .i64 (sumS (xs.take i))) := (hkw381 4 rfl).trans uw125_4
                  have uw381_3 : ρ380 3 = v11 := (hkw381 3 rfl).trans uw125_3
                  have uw381_23 : ρ380 23 = (.int .i64 (i : Int)) := (hkw381 23 rfl).trans uw125_23
                  have uw381_24 : ρ380 24 = v11 := (hkw381 24 rfl).trans uw125_24
                  have uw381_25 : ρ380 25 = (.int .i64 (xs.length : Int)) := (hkw381 25 rfl).trans uw125_25
                  have uw381_26 : ρ380 26 = (.bool (decide ((i : Int) < (xs.length : Int)))) := (hkw381 26 rfl).trans uw125_26
                  have uw381_47 : ρ380 47 = v11 := (hkw381 47 rfl).trans uw125_47
                  have uw381_48 : ρ380 48 = (.tuple #[(.agg #[(.int .i64 (((allA xs 3).1).From)), (.int .i64 (((allA xs 3).1).Count)), (.int .i64 (((allA xs 3).1).Sum)), (.int .i64 (((allA xs 3).1).Min)), (.int .i64 (((allA xs 3).1).Max)), (.int .i64 (((allA xs 3).1).First)), (.int .i64 (((allA xs 3).1).Last))]), (.int .i64 ((allA xs 3).2))]) := (hkw381 48 rfl).trans uw125_48
                  have uw381_46 : ρ380 46 = (.tuple #[(.agg #[(.int .i64 (((allA xs 3).1).From)), (.int .i64 (((allA xs 3).1).Count)), (.int .i64 (((allA xs 3).1).Sum)), (.int .i64 (((allA xs 3).1).Min)), (.int .i64 (((allA xs 3).1).Max)), (.int .i64 (((allA xs 3).1).First)), (.int .i64 (((allA xs 3).1).Last))]), (.int .i64 ((allA xs 3).2))]) := (hkw381 46 rfl).trans uw125_46
                  have uw381_49 : ρ380 49 = (.agg #[(.int .i64 (((allA xs 3).1).From)), (.int .i64 (((allA xs 3).1).Count)), (.int .i64 (((allA xs 3).1).Sum)), (.int .i64 (((allA xs 3).1).Min)), (.int .i64 (((allA xs 3).1).Max)), (.int .i64 (((allA xs 3).1).First)), (.int .i64 (((allA xs 3).1).Last))]) := (hkw381 49 rfl).trans uw125_49
                  have uw381_50 : ρ380 50 = (.int .i64 ((allA xs 3).2)) := (hkw381 50 rfl).trans uw125_50
                  have uw381_6 : ρ380 6 = (.pointer (some ⟨g33, 0, none⟩)) := (hkw381 6 rfl).trans uw125_6
                  have uw381_7 : ρ380 7 = (.int .i64 ((allA xs 3).2)) := (hkw381 7 rfl).trans uw125_7
                  have uw381_10 : ρ380 10 = (.int .i64 (k : Int)) := (hkw381 10 rfl).trans uw125_10
                  have uw381_51 : ρ380 51 = (.int .i64 (k : Int)) := (hkw381 51 rfl).trans uw125_51
                  have uw381_52 : ρ380 52 = v11 := (hkw381 52 rfl).trans uw125_52
                  have uw381_53 : ρ380 53 = (.int .i64 (xs.length : Int)) := (hkw381 53 rfl).trans uw125_53
                  have uw381_54 : ρ380 54 = (.bool (decide ((k : Int) < (xs.length : Int)))) := (hkw381 54 rfl).trans uw125_54
                  have uw381_74 : ρ380 74 = (.bool (decide ((((allA xs 3).1).Max) < ((xs[k]'(by first | omega | (simp only [List.length_set]; omega))).V)))) := (hkw381 74 rfl).trans uw125_74
                  have uw381_8 : ρ380 8 = (.bool (decide (((xs[k]'(by first | omega | (simp only [List.length_set]; omega))).V) = (((allA xs 3).1).Min)))) := hRw381 22 8 rfl
                  have uw381_9 : ρ380 9 = (.bool true) := hRw381 23 9 rfl
                  refine block_n (then_n ?_)
                  refine cE_region rfl ?_
                  refine s_cons (op_move (.int .i64 (k : Int)) uw381_10 ?_)
                  refine s_cons (op_add (k := .i64) (a := (k : Int)) (b := 1) ((k : Int) + 1) rfl rfl (xi64 (by omega) (by omega)) ?_)
                  refine s_cons (op_assign (.int .i64 ((k : Int) + 1)) rfl ?_)
                  refine s_nil ?_
                  refine then_n ?_
                  exact ⟨_, ⟨(k + 1), decide (((xs[k]'(by first | omega | (simp only [List.length_set]; omega))).V) = (((allA xs 3).1).Min)), true, rfl, uw381_0, uw381_11, uw381_12, uw381_13, uw381_14, uw381_15, uw381_16, uw381_17, uw381_18, uw381_21, uw381_22, uw381_5, uw381_4, uw381_3, uw381_23, uw381_24, uw381_25, uw381_26, uw381_47, uw381_48, uw381_46, uw381_49, uw381_50, uw381_6, uw381_7, (congrArg (Value.int .i64) (show ((k : Int) + 1) = _ from by omega)), uw381_8, uw381_9, hst, (by omega), (by first | exact seen_start | exact seen_true | exact seen_next (by omega) hlo (by assumption)), (by first | exact seen_start | exact seen_true | exact seen_next (by omega) hhg (by assumption))⟩, (by simp only [id]; omega)⟩
              · refine cE_regionL hst [[(8, none)], [(75, some 0)], [(3, none), (76, some 1)], [(10, none), (76, some 1)], [(77, some 2), (78, some 3), (76, some 1)], [(79, some 4), (76, some 1)], [(80, some 5), (76, some 1)], [(6, none), (76, some 1)], [(82, some 7), (76, some 1)], [(81, some 6), (83, some 8), (76, some 1)], [(76, some 1), (84, some 9)], [(9, none)], [(86, some 11)], [(3, none), (87, some 12)], [(10, none), (87, some 12)], [(88, some 13), (89, some 14), (87, some 12)], [(90, some 15), (87, some 12)], [(91, some 16), (87, some 12)], [(6, none), (87, some 12)], [(93, some 18), (87, some 12)], [(92, some 17), (94, some 19), (87, some 12)], [(87, some 12), (95, some 20)], [(85, some 10)], [(96, some 21)]] [(rEq (.bool lo)), (rEq (.bool lo)), (rEq v11), (rEq (.int .i64 (k : Int))), (rPt [(.int .i64 ((xs[k]'(by first | omega | (simp only [List.length_set]; omega))).T)), (.int .i64 ((xs[k]'(by first | omega | (simp only [List.length_set]; omega))).V))]), (rPt [(.int .i64 ((xs[k]'(by first | omega | (simp only [List.length_set]; omega))).V))]), (rEq (.int .i64 ((xs[k]'(by first | omega | (simp only [List.length_set]; omega))).V))), (rEq (.pointer (some ⟨g33, (0 + 3), none⟩))), (rEq (.int .i64 (((allA xs 3).1).Min))), (rEq (.bool (decide (((xs[k]'(by first | omega | (simp only [List.length_set]; omega))).V) = (((allA xs 3).1).Min))))), (rEq (.bool (decide (((xs[k]'(by first | omega | (simp only [List.length_set]; omega))).V) = (((allA xs 3).1).Min))))), (rEq (.bool hg)), (rEq (.bool hg)), (rEq v11), (rEq (.int .i64 (k : Int))), (rPt [(.int .i64 ((xs[k]'(by first | omega | (simp only [List.length_set]; omega))).T)), (.int .i64 ((xs[k]'(by first | omega | (simp only [List.length_set]; omega))).V))]), (rPt [(.int .i64 ((xs[k]'(by first | omega | (simp only [List.length_set]; omega))).V))]), (rEq (.int .i64 ((xs[k]'(by first | omega | (simp only [List.length_set]; omega))).V))), (rEq (.pointer (some ⟨g33, (0 + 4), none⟩))), (rEq (.int .i64 (((allA xs 3).1).Max))), (rEq (.bool (decide (((xs[k]'(by first | omega | (simp only [List.length_set]; omega))).V) = (((allA xs 3).1).Max))))), (rEq (.bool (decide (((xs[k]'(by first | omega | (simp only [List.length_set]; omega))).V) = (((allA xs 3).1).Max))))), (rEq (.bool (decide (((xs[k]'(by first | omega | (simp only [List.length_set]; omega))).V) = (((allA xs 3).1).Min))))), (rEq (.bool (decide (((xs[k]'(by first | omega | (simp only [List.length_set]; omega))).V) = (((allA xs 3).1).Max)))))] (by kernel_rfl) rfl (by kernel_rfl) ⟨sEq, sEq, sEq, sEq, sPt, sPt, sEq, sEq, sEq, sEq, sEq, sEq, sEq, sEq, sEq, sPt, sPt, sEq, sEq, sEq, sEq, sEq, sEq, sEq, trivial⟩ ⟨?_, ?_, ?_, ?_, ?_, ?_, ?_, ?_, ?_, ?_, ?_, ?_, ?_, ?_, ?_, ?_, ?_, ?_, ?_, ?_, ?_, ?_, ?_, ?_, trivial⟩ ?_
                · rintro ρ388 w389 hj390 ⟨f8, _⟩
                  have hst := hj390.2
                  exact go_plain (op_move (.bool lo) (f8.trans uw125_8) (kS hj390 rfl))
                · rintro ρ391 w392 hj393 ⟨f75, _⟩
                  have hst := hj393.2
                  exact go_plain (op_move (.bool lo) f75 (kS hj393 rfl))
                · rintro ρ394 w395 hj396 ⟨f3, f76, _⟩
                  have hst := hj396.2
                  exact go_yes 76 rfl (f76.trans (congrArg Value.bool b126)) (op_move v11 (f3.trans uw125_3) (kS hj396 rfl))
                · rintro ρ397 w398 hj399 ⟨f10, f76, _⟩
                  have hst := hj399.2
                  exact go_yes 76 rfl (f76.trans (congrArg Value.bool b126)) (op_move (.int .i64 (k : Int)) (f10.trans uw125_10) (kS hj399 rfl))
                · rintro ρ400 w401 hj402 ⟨f77, f78, f76, _⟩
                  have hst := hj402.2
                  refine go_yes 76 rfl (f76.trans (congrArg Value.bool b126)) (op_indexAddrN (E := sampE) (xs := xs) k Try.underlying22 Try.sizeOf32 f77 (hst.sl 1 rfl) f78 (by omega) (by first | omega | (simp only [List.length_set]; omega)) (fun a403 o404 p405 => ?_))
                  exact kS hj402 ⟨_, _, rfl, p405⟩
                · rintro ρ406 w407 hj408 ⟨f79, f76, _⟩
                  have hst := hj408.2
                  obtain ⟨a409, o410, e411, p412⟩ := f79
                  exact go_yes 76 rfl (f76.trans (congrArg Value.bool b126)) (op_fieldAddr (s := 0) Try.underlying32 rfl rfl Try.sizeOf2 e411 (kS hj408 ⟨_, _, rfl, (p412.drop 1)⟩))
                · rintro ρ413 w414 hj415 ⟨f80, f76, _⟩
                  have hst := hj415.2
                  obtain ⟨a416, o417, e418, p419⟩ := f80
                  exact go_yes 76 rfl (f76.trans (congrArg Value.bool b126)) (op_load1 (u := (.int .i64 ((xs[k]'(by first | omega | (simp only [List.length_set]; omega))).V))) Try.isAgg2 e418 p419 (kS hj415 rfl))
                · rintro ρ420 w421 hj422 ⟨f6, f76, _⟩
                  have hst := hj422.2
                  exact go_yes 76 rfl (f76.trans (congrArg Value.bool b126)) (op_fieldAddr (s := 0) Try.underlying26 rfl rfl Try.sizeOf2 (f6.trans uw125_6) (kS hj422 rfl))
                · rintro ρ423 w424 hj425 ⟨f82, f76, _⟩
                  have hst := hj425.2
                  exact go_yes 76 rfl (f76.trans (congrArg Value.bool b126)) (op_load1 (u := (.int .i64 (((allA xs 3).1).Min))) Try.isAgg2 f82 ((hst.cell 0 rfl).drop 3) (kS hj425 rfl))
                · rintro ρ426 w427 hj428 ⟨f81, f83, f76, _⟩
                  have hst := hj428.2
                  exact go_yes 76 rfl (f76.trans (congrArg Value.bool b126)) (op_eql (k := .i64) (a := (xs[k]'(by first | omega | (simp only [List.length_set]; omega))).V) (b := ((allA xs 3).1).Min) f81 f83 (kS hj428 rfl))
                · rintro ρ429 w430 hj431 ⟨f76, f84, _⟩
                  have hst := hj431.2
                  exact go_plain (op_pick_f (.bool (decide (((xs[k]'(by first | omega | (simp only [List.length_set]; omega))).V) = (((allA xs 3).1).Min)))) (f76.trans (congrArg Value.bool b126)) f84 (kS hj431 rfl))
                · rintro ρ432 w433 hj434 ⟨f9, _⟩
                  have hst := hj434.2
                  exact go_plain (op_move (.bool hg) (f9.trans uw125_9) (kS hj434 rfl))
                · rintro ρ435 w436 hj437 ⟨f86, _⟩
                  have hst := hj437.2
                  exact go_plain (op_move (.bool hg) f86 (kS hj437 rfl))
                · rintro ρ438 w439 hj440 ⟨f3, f87, _⟩
                  have hst := hj440.2
                  exact go_yes 87 rfl (f87.trans (congrArg Value.bool b293)) (op_move v11 (f3.trans uw125_3) (kS hj440 rfl))
                · rintro ρ441 w442 hj443 ⟨f10, f87, _⟩
                  have hst := hj443.2
                  exact go_yes 87 rfl (f87.trans (congrArg Value.bool b293)) (op_move (.int .i64 (k : Int)) (f10.trans uw125_10) (kS hj443 rfl))
                · rintro ρ444 w445 hj446 ⟨f88, f89, f87, _⟩
                  have hst := hj446.2
                  refine go_yes 87 rfl (f87.trans (congrArg Value.bool b293)) (op_indexAddrN (E := sampE) (xs := xs) k Try.underlying22 Try.sizeOf32 f88 (hst.sl 1 rfl) f89 (by omega) (by first | omega | (simp only [List.length_set]; omega)) (fun a447 o448 p449 => ?_))
                  exact kS hj446 ⟨_, _, rfl, p449⟩
                · rintro ρ450 w451 hj452 ⟨f90, f87, _⟩
                  have hst := hj452.2
                  obtain ⟨a453, o454, e455, p456⟩ := f90
                  exact go_yes 87 rfl (f87.trans (congrArg Value.bool b293)) (op_fieldAddr (s := 0) Try.underlying32 rfl rfl Try.sizeOf2 e455 (kS hj452 ⟨_, _, rfl, (p456.drop 1)⟩))
                · rintro ρ457 w458 hj459 ⟨f91, f87, _⟩
                  have hst := hj459.2
                  obtain ⟨a460, o461, e462, p463⟩ := f91
                  exact go_yes 87 rfl (f87.trans (congrArg Value.bool b293)) (op_load1 (u := (.int .i64 ((xs[k]'(by first | omega | (simp only [List.length_set]; omega))).V))) Try.isAgg2 e462 p463 (kS hj459 rfl))
                · rintro ρ464 w465 hj466 ⟨f6, f87, _⟩
                  have hst := hj466.2
                  exact go_yes 87 rfl (f87.trans (congrArg Value.bool b293)) (op_fieldAddr (s := 0) Try.underlying26 rfl rfl Try.sizeOf2 (f6.trans uw125_6) (kS hj466 rfl))
                · rintro ρ467 w468 hj469 ⟨f93, f87, _⟩
                  have hst := hj469.2
                  exact go_yes 87 rfl (f87.trans (congrArg Value.bool b293)) (op_load1 (u := (.int .i64 (((allA xs 3).1).Max))) Try.isAgg2 f93 ((hst.cell 0 rfl).drop 4) (kS hj469 rfl))
                · rintro ρ470 w471 hj472 ⟨f92, f94, f87, _⟩
                  have hst := hj472.2
                  exact go_yes 87 rfl (f87.trans (congrArg Value.bool b293)) (op_eql (k := .i64) (a := (xs[k]'(by first | omega | (simp only [List.length_set]; omega))).V) (b := ((allA xs 3).1).Max) f92 f94 (kS hj472 rfl))
                · rintro ρ473 w474 hj475 ⟨f87, f95, _⟩
                  have hst := hj475.2
                  exact go_plain (op_pick_f (.bool (decide (((xs[k]'(by first | omega | (simp only [List.length_set]; omega))).V) = (((allA xs 3).1).Max)))) (f87.trans (congrArg Value.bool b293)) f95 (kS hj475 rfl))
                · rintro ρ476 w477 hj478 ⟨f85, _⟩
                  have hst := hj478.2
                  exact go_plain (op_assign (.bool (decide (((xs[k]'(by first | omega | (simp only [List.length_set]; omega))).V) = (((allA xs 3).1).Min)))) f85 (kS hj478 rfl))
                · rintro ρ479 w480 hj481 ⟨f96, _⟩
                  have hst := hj481.2
                  exact go_plain (op_assign (.bool (decide (((xs[k]'(by first | omega | (simp only [List.length_set]; omega))).V) = (((allA xs 3).1).Max)))) f96 (kS hj481 rfl))
                · intro ρ482 w483 hbw483 hst hRw483 hkw483
                  have uw483_0 : ρ482 0 = v_l := (hkw483 0 rfl).trans uw125_0
                  have uw483_11 : ρ482 11 = v_l := (hkw483 11 rfl).trans uw125_11
                  have uw483_12 : ρ482 12 = (.int .i64 (l.length : Int)) := (hkw483 12 rfl).trans uw125_12
                  have uw483_13 : ρ482 13 = (.bool (decide ((l.length : Int) < 1))) := (hkw483 13 rfl).trans uw125_13
                  have uw483_14 : ρ482 14 = (.bool (decide ((l.length : Int) < 1))) := (hkw483 14 rfl).trans uw125_14
                  have uw483_15 : ρ482 15 = v_l := (hkw483 15 rfl).trans uw125_15
                  have uw483_16 : ρ482 16 = (.int .i64 (l.length : Int)) := (hkw483 16 rfl).trans uw125_16
                  have uw483_17 : ρ482 17 = (.bool (decide (60 < (l.length : Int)))) := (hkw483 17 rfl).trans uw125_17
                  have uw483_18 : ρ482 18 = (.bool (decide (60 < (l.length : Int)))) := (hkw483 18 rfl).trans uw125_18
                  have uw483_21 : ρ482 21 = v_l := (hkw483 21 rfl).trans uw125_21
                  have uw483_22 : ρ482 22 = v11 := (hkw483 22 rfl).trans uw125_22
                  have uw483_5 : ρ482 5 = (.int .i64 (i : Int)) := (hkw483 5 rfl).trans uw125_5
                  have uw483_4 : ρ482 4 = (.int .i64 (sumS (xs.take i))) := (hkw483 4 rfl).trans uw125_4
                  have uw483_3 : ρ482 3 = v11 := (hkw483 3 rfl).trans uw125_3
                  have uw483_23 : ρ482 23 = (.int .i64 (i : Int)) := (hkw483 23 rfl).trans uw125_23
                  have uw483_24 : ρ482 24 = v11 := (hkw483 24 rfl).trans uw125_24
                  have uw483_25 : ρ482 25 = (.int .i64 (xs.length : Int)) := (hkw483 25 rfl).trans uw125_25
                  have uw483_26 : ρ482 26 = (.bool (decide ((i : Int) < (xs.length : Int)))) := (hkw483 26 rfl).trans uw125_26
                  have uw483_47 : ρ482 47 = v11 := (hkw483 47 rfl).trans uw125_47
                  have uw483_48 : ρ482 48 = (.tuple #[(.agg #[(.int .i64 (((allA xs 3).1).From)), (.int .i64 (((allA xs 3).1).Count)), (.int .i64 (((allA xs 3).1).Sum)), (.int .i64 (((allA xs 3).1).Min)), (.int .i64 (((allA xs 3).1).Max)), (.int .i64 (((allA xs 3).1).First)), (.int .i64 (((allA xs 3).1).Last))]), (.int .i64 ((allA xs 3).2))]) := (hkw483 48 rfl).trans uw125_48
                  have uw483_46 : ρ482 46 = (.tuple #[(.agg #[(.int .i64 (((allA xs 3).1).From)), (.int .i64 (((allA xs 3).1).Count)), (.int .i64 (((allA xs 3).1).Sum)), (.int .i64 (((allA xs 3).1).Min)), (.int .i64 (((allA xs 3).1).Max)), (.int .i64 (((allA xs 3).1).First)), (.int .i64 (((allA xs 3).1).Last))]), (.int .i64 ((allA xs 3).2))]) := (hkw483 46 rfl).trans uw125_46
                  have uw483_49 : ρ482 49 = (.agg #[(.int .i64 (((allA xs 3).1).From)), (.int .i64 (((allA xs 3).1).Count)), (.int .i64 (((allA xs 3).1).Sum)), (.int .i64 (((allA xs 3).1).Min)), (.int .i64 (((allA xs 3).1).Max)), (.int .i64 (((allA xs 3).1).First)), (.int .i64 (((allA xs 3).1).Last))]) := (hkw483 49 rfl).trans uw125_49
                  have uw483_50 : ρ482 50 = (.int .i64 ((allA xs 3).2)) := (hkw483 50 rfl).trans uw125_50
                  have uw483_6 : ρ482 6 = (.pointer (some ⟨g33, 0, none⟩)) := (hkw483 6 rfl).trans uw125_6
                  have uw483_7 : ρ482 7 = (.int .i64 ((allA xs 3).2)) := (hkw483 7 rfl).trans uw125_7
                  have uw483_10 : ρ482 10 = (.int .i64 (k : Int)) := (hkw483 10 rfl).trans uw125_10
                  have uw483_51 : ρ482 51 = (.int .i64 (k : Int)) := (hkw483 51 rfl).trans uw125_51
                  have uw483_52 : ρ482 52 = v11 := (hkw483 52 rfl).trans uw125_52
                  have uw483_53 : ρ482 53 = (.int .i64 (xs.length : Int)) := (hkw483 53 rfl).trans uw125_53
                  have uw483_54 : ρ482 54 = (.bool (decide ((k : Int) < (xs.length : Int)))) := (hkw483 54 rfl).trans uw125_54
                  have uw483_74 : ρ482 74 = (.bool (decide ((((allA xs 3).1).Max) < ((xs[k]'(by first | omega | (simp only [List.length_set]; omega))).V)))) := (hkw483 74 rfl).trans uw125_74
                  have uw483_8 : ρ482 8 = (.bool (decide (((xs[k]'(by first | omega | (simp only [List.length_set]; omega))).V) = (((allA xs 3).1).Min)))) := hRw483 22 8 rfl
                  have uw483_9 : ρ482 9 = (.bool (decide (((xs[k]'(by first | omega | (simp only [List.length_set]; omega))).V) = (((allA xs 3).1).Max)))) := hRw483 23 9 rfl
                  refine block_n (then_n ?_)
                  refine cE_region rfl ?_
                  refine s_cons (op_move (.int .i64 (k : Int)) uw483_10 ?_)
                  refine s_cons (op_add (k := .i64) (a := (k : Int)) (b := 1) ((k : Int) + 1) rfl rfl (xi64 (by omega) (by omega)) ?_)
                  refine s_cons (op_assign (.int .i64 ((k : Int) + 1)) rfl ?_)
                  refine s_nil ?_
                  refine then_n ?_
                  exact ⟨_, ⟨(k + 1), decide (((xs[k]'(by first | omega | (simp only [List.length_set]; omega))).V) = (((allA xs 3).1).Min)), decide (((xs[k]'(by first | omega | (simp only [List.length_set]; omega))).V) = (((allA xs 3).1).Max)), rfl, uw483_0, uw483_11, uw483_12, uw483_13, uw483_14, uw483_15, uw483_16, uw483_17, uw483_18, uw483_21, uw483_22, uw483_5, uw483_4, uw483_3, uw483_23, uw483_24, uw483_25, uw483_26, uw483_47, uw483_48, uw483_46, uw483_49, uw483_50, uw483_6, uw483_7, (congrArg (Value.int .i64) (show ((k : Int) + 1) = _ from by omega)), uw483_8, uw483_9, hst, (by omega), (by first | exact seen_start | exact seen_true | exact seen_next (by omega) hlo (by assumption)), (by first | exact seen_start | exact seen_true | exact seen_next (by omega) hhg (by assumption))⟩, (by simp only [id]; omega)⟩
        · have c484 : ¬ ((k : Int) < (xs.length : Int)) := of_decide_eq_false b40
          refine cE_cond false (congrArg Value.bool b40) (fun h => by cases h) (fun _ => ?_)
          refine cE_exit ?_
          refine then_x (then_x (block_hit (then_n ?_)))
          refine cE_seq ?_
          refine cE_regionL hst [[], [(97, some 0)], [(7, none), (98, some 1)], [(99, some 2), (98, some 1)], [(98, some 1), (100, some 3)], [(101, some 4)], [(6, none), (102, some 5)], [(103, some 6), (102, some 5)], [(102, some 5), (104, some 7)], [(105, some 8)], [(6, none), (106, some 9)], [(107, some 10), (106, some 9)], [(3, none), (106, some 9)], [(109, some 12), (106, some 9)], [(108, some 11), (110, some 13), (106, some 9)], [(106, some 9), (111, some 14)], [(112, some 15)], [(6, none), (113, some 16)], [(114, some 17), (113, some 16)], [(4, none), (113, some 16)], [(115, some 18), (116, some 19), (113, some 16)], [(113, some 16), (117, some 20)], [(118, some 21)], [(6, none), (119, some 22)], [(120, some 23), (119, some 22)], [(3, none), (119, some 22)], [(122, some 25), (119, some 22)], [(123, some 26), (119, some 22)], [(124, some 27), (119, some 22)], [(121, some 24), (125, some 28), (119, some 22)], [(119, some 22), (126, some 29)], [(127, some 30)], [(6, none), (128, some 31)], [(129, some 32), (128, some 31)], [(3, none), (128, some 31)], [(3, none), (128, some 31)], [(132, some 35), (128, some 31)], [(133, some 36), (128, some 31)], [(131, some 34), (134, some 37), (128, some 31)], [(135, some 38), (128, some 31)], [(136, some 39), (128, some 31)], [(130, some 33), (137, some 40), (128, some 31)], [(128, some 31), (138, some 41)], [(139, some 42)], [(8, none), (140, some 43)], [(140, some 43), (141, some 44)], [(142, some 45)], [(9, none), (143, some 46)], [(143, some 46), (144, some 47)], [(145, some 48)], [(6, none), (146, some 49)], [(147, some 50), (146, some 49)], [(148, some 51), (146, some 49)], [(146, some 49), (149, some 52)], [(150, some 53)]] [(rEq (.bool true)), (rEq (.bool true)), (rEq (.int .i64 ((allA xs 3).2))), (rEq (.bool (decide (((allA xs 3).2) = 0)))), (rEq (.bool (decide (((allA xs 3).2) = 0)))), (rEq (.bool (decide (((allA xs 3).2) = 0)))), (rEq (.agg #[(.int .i64 (((allA xs 3).1).From)), (.int .i64 (((allA xs 3).1).Count)), (.int .i64 (((allA xs 3).1).Sum)), (.int .i64 (((allA xs 3).1).Min)), (.int .i64 (((allA xs 3).1).Max)), (.int .i64 (((allA xs 3).1).First)), (.int .i64 (((allA xs 3).1).Last))])), (rEq (.bool (mayA ((allA xs 3).1)))), (rEq (.bool (mayA ((allA xs 3).1)))), (rEq (.bool (mayA ((allA xs 3).1)))), (rEq (.pointer (some ⟨g33, (0 + 1), none⟩))), (rEq (.int .i64 (((allA xs 3).1).Count))), (rEq v11), (rEq (.int .i64 (xs.length : Int))), (rEq (.bool (decide ((((allA xs 3).1).Count) = (xs.length : Int))))), (rEq (.bool (decide ((((allA xs 3).1).Count) = (xs.length : Int))))), (rEq (.bool (decide ((((allA xs 3).1).Count) = (xs.length : Int))))), (rEq (.pointer (some ⟨g33, (0 + 2), none⟩))), (rEq (.int .i64 (((allA xs 3).1).Sum))), (rEq (.int .i64 (sumS (xs.take i)))), (rEq (.bool (decide ((((allA xs 3).1).Sum) = (sumS (xs.take i)))))), (rEq (.bool (decide ((((allA xs 3).1).Sum) = (sumS (xs.take i)))))), (rEq (.bool (decide ((((allA xs 3).1).Sum) = (sumS (xs.take i)))))), (rEq (.pointer (some ⟨g33, (0 + 5), none⟩))), (rEq (.int .i64 (((allA xs 3).1).First))), (rEq v11), (rPt [(.int .i64 ((xs[0]'(by first | omega | (simp only [List.length_set]; omega))).T)), (.int .i64 ((xs[0]'(by first | omega | (simp only [List.length_set]; omega))).V))]), (rPt [(.int .i64 ((xs[0]'(by first | omega | (simp only [List.length_set]; omega))).V))]), (rEq (.int .i64 ((xs[0]'(by first | omega | (simp only [List.length_set]; omega))).V))), (rEq (.bool (decide ((((allA xs 3).1).First) = ((xs[0]'(by first | omega | (simp only [List.length_set]; omega))).V))))), (rEq (.bool (decide ((((allA xs 3).1).First) = ((xs[0]'(by first | omega | (simp only [List.length_set]; omega))).V))))), (rEq (.bool (decide ((((allA xs 3).1).First) = ((xs[0]'(by first | omega | (simp only [List.length_set]; omega))).V))))), (rEq (.pointer (some ⟨g33, (0 + 6), none⟩))), (rEq (.int .i64 (((allA xs 3).1).Last))), (rEq v11), (rEq v11), (rEq (.int .i64 (xs.length : Int))), (rEq (.int .i64 ((xs.length : Int) - 1))), (rPt [(.int .i64 ((xs[(xs.length - 1)]'(by first | omega | (simp only [List.length_set]; omega))).T)), (.int .i64 ((xs[(xs.length - 1)]'(by first | omega | (simp only [List.length_set]; omega))).V))]), (rPt [(.int .i64 ((xs[(xs.length - 1)]'(by first | omega | (simp only [List.length_set]; omega))).V))]), (rEq (.int .i64 ((xs[(xs.length - 1)]'(by first | omega | (simp only [List.length_set]; omega))).V))), (rEq (.bool (decide ((((allA xs 3).1).Last) = ((xs[(xs.length - 1)]'(by first | omega | (simp only [List.length_set]; omega))).V))))), (rEq (.bool (decide ((((allA xs 3).1).Last) = ((xs[(xs.length - 1)]'(by first | omega | (simp only [List.length_set]; omega))).V))))), (rEq (.bool (decide ((((allA xs 3).1).Last) = ((xs[(xs.length - 1)]'(by first | omega | (simp only [List.length_set]; omega))).V))))), (rEq (.bool lo)), (rEq (.bool lo)), (rEq (.bool lo)), (rEq (.bool hg)), (rEq (.bool hg)), (rEq (.bool hg)), (rEq (.pointer (some ⟨g33, (0 + 0), none⟩))), (rEq (.int .i64 (((allA xs 3).1).From))), (rEq (.bool (decide ((((allA xs 3).1).From) = 3)))), (rEq (.bool (decide ((((allA xs 3).1).From) = 3)))), (rEq (.bool (decide ((((allA xs 3).1).From) = 3))))] (by kernel_rfl) rfl (by kernel_rfl) ⟨sEq, sEq, sEq, sEq, sEq, sEq, sEq, sEq, sEq, sEq, sEq, sEq, sEq, sEq, sEq, sEq, sEq, sEq, sEq, sEq, sEq, sEq, sEq, sEq, sEq, sEq, sPt, sPt, sEq, sEq, sEq, sEq, sEq, sEq, sEq, sEq, sEq, sEq, sPt, sPt, sEq, sEq, sEq, sEq, sEq, sEq, sEq, sEq, sEq, sEq, sEq, sEq, sEq, sEq, sEq, trivial⟩ ⟨?_, ?_, ?_, ?_, ?_, ?_, ?_, ?_, ?_, ?_, ?_, ?_, ?_, ?_, ?_, ?_, ?_, ?_, ?_, ?_, ?_, ?_, ?_, ?_, ?_, ?_, ?_, ?_, ?_, ?_, ?_, ?_, ?_, ?_, ?_, ?_, ?_, ?_, ?_, ?_, ?_, ?_, ?_, ?_, ?_, ?_, ?_, ?_, ?_, ?_, ?_, ?_, ?_, ?_, ?_, trivial⟩ ?_
          · rintro ρ493 w494 hj495 ⟨_⟩
            have hst := hj495.2
            refine go_plain (op_call Try.call14 evs_nil (c_told3 (w0 := w494)) ?_)
            rintro _ w496 ⟨rfl, hcall⟩
            refine ⟨_, rfl, ?_⟩
            exact kD hj495 hcall rfl
          · rintro ρ497 w498 hj499 ⟨f97, _⟩
            have hst := hj499.2
            exact go_plain (op_move (.bool true) f97 (kS hj499 rfl))
          · rintro ρ500 w501 hj502 ⟨f7, f98, _⟩
            have hst := hj502.2
            exact go_yes 98 rfl f98 (op_move (.int .i64 ((allA xs 3).2)) (f7.trans q36_7) (kS hj502 rfl))
          · rintro ρ503 w504 hj505 ⟨f99, f98, _⟩
            have hst := hj505.2
            exact go_yes 98 rfl f98 (op_eql (k := .i64) (a := (allA xs 3).2) (b := 0) f99 rfl (kS hj505 rfl))
          · rintro ρ506 w507 hj508 ⟨f98, f100, _⟩
            have hst := hj508.2
            exact go_plain (op_pick_t (.bool (decide (((allA xs 3).2) = 0))) f98 f100 (kS hj508 rfl))
          · rintro ρ509 w510 hj511 ⟨f101, _⟩
            have hst := hj511.2
            exact go_plain (op_move (.bool (decide (((allA xs 3).2) = 0))) f101 (kS hj511 rfl))
          · rintro ρ512 w513 hj514 ⟨f6, f102, _⟩
            have hst := hj514.2
            exact go_yes 102 rfl (f102.trans (congrArg Value.bool (show (decide (((allA xs 3).2) = 0)) = true from (decide_eq_true hb.1)))) (op_loadN (cs := [(.int .i64 (((allA xs 3).1).From)), (.int .i64 (((allA xs 3).1).Count)), (.int .i64 (((allA xs 3).1).Sum)), (.int .i64 (((allA xs 3).1).Min)), (.int .i64 (((allA xs 3).1).Max)), (.int .i64 (((allA xs 3).1).First)), (.int .i64 (((allA xs 3).1).Last))]) Try.isAgg26 Try.sizeOf26 (f6.trans q36_6) (Pt.of (hst.cell 0 rfl) rfl) rfl (kS hj514 rfl))
          · rintro ρ515 w516 hj517 ⟨f103, f102, _⟩
            have hst := hj517.2
            refine go_yes 102 rfl (f102.trans (congrArg Value.bool (show (decide (((allA xs 3).2) = 0)) = true from (decide_eq_true hb.1)))) (op_call Try.call17 (evs_cons (v := (.agg #[(.int .i64 (((allA xs 3).1).From)), (.int .i64 (((allA xs 3).1).Count)), (.int .i64 (((allA xs 3).1).Sum)), (.int .i64 (((allA xs 3).1).Min)), (.int .i64 (((allA xs 3).1).Max)), (.int .i64 (((allA xs 3).1).First)), (.int .i64 (((allA xs 3).1).Last))])) f103 evs_nil) (c_May (w0 := w516) (a := ((allA xs 3).1))) ?_)
            rintro _ w518 ⟨rfl, hcall⟩
            refine ⟨_, rfl, ?_⟩
            exact kD hj517 hcall rfl
          · rintro ρ519 w520 hj521 ⟨f102, f104, _⟩
            have hst := hj521.2
            exact go_plain (op_pick_t (.bool (mayA ((allA xs 3).1))) (f102.trans (congrArg Value.bool (show (decide (((allA xs 3).2) = 0)) = true from (decide_eq_true hb.1)))) f104 (kS hj521 rfl))
          · rintro ρ522 w523 hj524 ⟨f105, _⟩
            have hst := hj524.2
            exact go_plain (op_move (.bool (mayA ((allA xs 3).1))) f105 (kS hj524 rfl))
          · rintro ρ525 w526 hj527 ⟨f6, f106, _⟩
            have hst := hj527.2
            exact go_yes 106 rfl (f106.trans (congrArg Value.bool (show (mayA ((allA xs 3).1)) = true from hb.2.1))) (op_fieldAddr (s := 0) Try.underlying26 rfl rfl Try.sizeOf2 (f6.trans q36_6) (kS hj527 rfl))
          · rintro ρ528 w529 hj530 ⟨f107, f106, _⟩
            have hst := hj530.2
            exact go_yes 106 rfl (f106.trans (congrArg Value.bool (show (mayA ((allA xs 3).1)) = true from hb.2.1))) (op_load1 (u := (.int .i64 (((allA xs 3).1).Count))) Try.isAgg2 f107 ((hst.cell 0 rfl).drop 1) (kS hj530 rfl))
          · rintro ρ531 w532 hj533 ⟨f3, f106, _⟩
            have hst := hj533.2
            exact go_yes 106 rfl (f106.trans (congrArg Value.bool (show (mayA ((allA xs 3).1)) = true from hb.2.1))) (op_move v11 (f3.trans q36_3) (kS hj533 rfl))
          · rintro ρ534 w535 hj536 ⟨f109, f106, _⟩
            have hst := hj536.2
            exact go_yes 106 rfl (f106.trans (congrArg Value.bool (show (mayA ((allA xs 3).1)) = true from hb.2.1))) (op_len (E := sampE) (xs := xs) Try.underlying22 f109 (hst.sl 1 rfl) (kS hj536 rfl))
          · rintro ρ537 w538 hj539 ⟨f108, f110, f106, _⟩
            have hst := hj539.2
            exact go_yes 106 rfl (f106.trans (congrArg Value.bool (show (mayA ((allA xs 3).1)) = true from hb.2.1))) (op_eql (k := .i64) (a := ((allA xs 3).1).Count) (b := (xs.length : Int)) f108 f110 (kS hj539 rfl))
          · rintro ρ540 w541 hj542 ⟨f106, f111, _⟩
            have hst := hj542.2
            exact go_plain (op_pick_t (.bool (decide ((((allA xs 3).1).Count) = (xs.length : Int)))) (f106.trans (congrArg Value.bool (show (mayA ((allA xs 3).1)) = true from hb.2.1))) f111 (kS hj542 rfl))
          · rintro ρ543 w544 hj545 ⟨f112, _⟩
            have hst := hj545.2
            exact go_plain (op_move (.bool (decide ((((allA xs 3).1).Count) = (xs.length : Int)))) f112 (kS hj545 rfl))
          · rintro ρ546 w547 hj548 ⟨f6, f113, _⟩
            have hst := hj548.2
            exact go_yes 113 rfl (f113.trans (congrArg Value.bool (show (decide ((((allA xs 3).1).Count) = (xs.length : Int))) = true from (decide_eq_true hb.2.2.1)))) (op_fieldAddr (s := 0) Try.underlying26 rfl rfl Try.sizeOf2 (f6.trans q36_6) (kS hj548 rfl))
          · rintro ρ549 w550 hj551 ⟨f114, f113, _⟩
            have hst := hj551.2
            exact go_yes 113 rfl (f113.trans (congrArg Value.bool (show (decide ((((allA xs 3).1).Count) = (xs.length : Int))) = true from (decide_eq_true hb.2.2.1)))) (op_load1 (u := (.int .i64 (((allA xs 3).1).Sum))) Try.isAgg2 f114 ((hst.cell 0 rfl).drop 2) (kS hj551 rfl))
          · rintro ρ552 w553 hj554 ⟨f4, f113, _⟩
            have hst := hj554.2
            exact go_yes 113 rfl (f113.trans (congrArg Value.bool (show (decide ((((allA xs 3).1).Count) = (xs.length : Int))) = true from (decide_eq_true hb.2.2.1)))) (op_move (.int .i64 (sumS (xs.take i))) (f4.trans q36_4) (kS hj554 rfl))
          · rintro ρ555 w556 hj557 ⟨f115, f116, f113, _⟩
            have hst := hj557.2
            exact go_yes 113 rfl (f113.trans (congrArg Value.bool (show (decide ((((allA xs 3).1).Count) = (xs.length : Int))) = true from (decide_eq_true hb.2.2.1)))) (op_eql (k := .i64) (a := ((allA xs 3).1).Sum) (b := (sumS (xs.take i))) f115 f116 (kS hj557 rfl))
          · rintro ρ558 w559 hj560 ⟨f113, f117, _⟩
            have hst := hj560.2
            exact go_plain (op_pick_t (.bool (decide ((((allA xs 3).1).Sum) = (sumS (xs.take i))))) (f113.trans (congrArg Value.bool (show (decide ((((allA xs 3).1).Count) = (xs.length : Int))) = true from (decide_eq_true hb.2.2.1)))) f117 (kS hj560 rfl))
          · rintro ρ561 w562 hj563 ⟨f118, _⟩
            have hst := hj563.2
            exact go_plain (op_move (.bool (decide ((((allA xs 3).1).Sum) = (sumS (xs.take i))))) f118 (kS hj563 rfl))
          · rintro ρ564 w565 hj566 ⟨f6, f119, _⟩
            have hst := hj566.2
            exact go_yes 119 rfl (f119.trans (congrArg Value.bool (show (decide ((((allA xs 3).1).Sum) = (sumS (xs.take i)))) = true from (decide_eq_true (hb.2.2.2.1.trans he.symm))))) (op_fieldAddr (s := 0) Try.underlying26 rfl rfl Try.sizeOf2 (f6.trans q36_6) (kS hj566 rfl))
          · rintro ρ567 w568 hj569 ⟨f120, f119, _⟩
            have hst := hj569.2
            exact go_yes 119 rfl (f119.trans (congrArg Value.bool (show (decide ((((allA xs 3).1).Sum) = (sumS (xs.take i)))) = true from (decide_eq_true (hb.2.2.2.1.trans he.symm))))) (op_load1 (u := (.int .i64 (((allA xs 3).1).First))) Try.isAgg2 f120 ((hst.cell 0 rfl).drop 5) (kS hj569 rfl))
          · rintro ρ570 w571 hj572 ⟨f3, f119, _⟩
            have hst := hj572.2
            exact go_yes 119 rfl (f119.trans (congrArg Value.bool (show (decide ((((allA xs 3).1).Sum) = (sumS (xs.take i)))) = true from (decide_eq_true (hb.2.2.2.1.trans he.symm))))) (op_move v11 (f3.trans q36_3) (kS hj572 rfl))
          · rintro ρ573 w574 hj575 ⟨f122, f119, _⟩
            have hst := hj575.2
            refine go_yes 119 rfl (f119.trans (congrArg Value.bool (show (decide ((((allA xs 3).1).Sum) = (sumS (xs.take i)))) = true from (decide_eq_true (hb.2.2.2.1.trans he.symm))))) (op_indexAddrN (E := sampE) (xs := xs) 0 Try.underlying22 Try.sizeOf32 f122 (hst.sl 1 rfl) rfl (by omega) (by first | omega | (simp only [List.length_set]; omega)) (fun a576 o577 p578 => ?_))
            exact kS hj575 ⟨_, _, rfl, p578⟩
          · rintro ρ579 w580 hj581 ⟨f123, f119, _⟩
            have hst := hj581.2
            obtain ⟨a582, o583, e584, p585⟩ := f123
            exact go_yes 119 rfl (f119.trans (congrArg Value.bool (show (decide ((((allA xs 3).1).Sum) = (sumS (xs.take i)))) = true from (decide_eq_true (hb.2.2.2.1.trans he.symm))))) (op_fieldAddr (s := 0) Try.underlying32 rfl rfl Try.sizeOf2 e584 (kS hj581 ⟨_, _, rfl, (p585.drop 1)⟩))
          · rintro ρ586 w587 hj588 ⟨f124, f119, _⟩
            have hst := hj588.2
            obtain ⟨a589, o590, e591, p592⟩ := f124
            exact go_yes 119 rfl (f119.trans (congrArg Value.bool (show (decide ((((allA xs 3).1).Sum) = (sumS (xs.take i)))) = true from (decide_eq_true (hb.2.2.2.1.trans he.symm))))) (op_load1 (u := (.int .i64 ((xs[0]'(by first | omega | (simp only [List.length_set]; omega))).V))) Try.isAgg2 e591 p592 (kS hj588 rfl))
          · rintro ρ593 w594 hj595 ⟨f121, f125, f119, _⟩
            have hst := hj595.2
            exact go_yes 119 rfl (f119.trans (congrArg Value.bool (show (decide ((((allA xs 3).1).Sum) = (sumS (xs.take i)))) = true from (decide_eq_true (hb.2.2.2.1.trans he.symm))))) (op_eql (k := .i64) (a := ((allA xs 3).1).First) (b := (xs[0]'(by first | omega | (simp only [List.length_set]; omega))).V) f121 f125 (kS hj595 rfl))
          · rintro ρ596 w597 hj598 ⟨f119, f126, _⟩
            have hst := hj598.2
            exact go_plain (op_pick_t (.bool (decide ((((allA xs 3).1).First) = ((xs[0]'(by first | omega | (simp only [List.length_set]; omega))).V)))) (f119.trans (congrArg Value.bool (show (decide ((((allA xs 3).1).Sum) = (sumS (xs.take i)))) = true from (decide_eq_true (hb.2.2.2.1.trans he.symm))))) f126 (kS hj598 rfl))
          · rintro ρ599 w600 hj601 ⟨f127, _⟩
            have hst := hj601.2
            exact go_plain (op_move (.bool (decide ((((allA xs 3).1).First) = ((xs[0]'(by first | omega | (simp only [List.length_set]; omega))).V)))) f127 (kS hj601 rfl))
          · rintro ρ602 w603 hj604 ⟨f6, f128, _⟩
            have hst := hj604.2
            exact go_yes 128 rfl (f128.trans (congrArg Value.bool (show (decide ((((allA xs 3).1).First) = ((xs[0]'(by first | omega | (simp only [List.length_set]; omega))).V))) = true from (decide_eq_true hb.2.2.2.2.1)))) (op_fieldAddr (s := 0) Try.underlying26 rfl rfl Try.sizeOf2 (f6.trans q36_6) (kS hj604 rfl))
          · rintro ρ605 w606 hj607 ⟨f129, f128, _⟩
            have hst := hj607.2
            exact go_yes 128 rfl (f128.trans (congrArg Value.bool (show (decide ((((allA xs 3).1).First) = ((xs[0]'(by first | omega | (simp only [List.length_set]; omega))).V))) = true from (decide_eq_true hb.2.2.2.2.1)))) (op_load1 (u := (.int .i64 (((allA xs 3).1).Last))) Try.isAgg2 f129 ((hst.cell 0 rfl).drop 6) (kS hj607 rfl))
          · rintro ρ608 w609 hj610 ⟨f3, f128, _⟩
            have hst := hj610.2
            exact go_yes 128 rfl (f128.trans (congrArg Value.bool (show (decide ((((allA xs 3).1).First) = ((xs[0]'(by first | omega | (simp only [List.length_set]; omega))).V))) = true from (decide_eq_true hb.2.2.2.2.1)))) (op_move v11 (f3.trans q36_3) (kS hj610 rfl))
          · rintro ρ611 w612 hj613 ⟨f3, f128, _⟩
            have hst := hj613.2
            exact go_yes 128 rfl (f128.trans (congrArg Value.bool (show (decide ((((allA xs 3).1).First) = ((xs[0]'(by first | omega | (simp only [List.length_set]; omega))).V))) = true from (decide_eq_true hb.2.2.2.2.1)))) (op_move v11 (f3.trans q36_3) (kS hj613 rfl))
          · rintro ρ614 w615 hj616 ⟨f132, f128, _⟩
            have hst := hj616.2
            exact go_yes 128 rfl (f128.trans (congrArg Value.bool (show (decide ((((allA xs 3).1).First) = ((xs[0]'(by first | omega | (simp only [List.length_set]; omega))).V))) = true from (decide_eq_true hb.2.2.2.2.1)))) (op_len (E := sampE) (xs := xs) Try.underlying22 f132 (hst.sl 1 rfl) (kS hj616 rfl))
          · rintro ρ617 w618 hj619 ⟨f133, f128, _⟩
            have hst := hj619.2
            exact go_yes 128 rfl (f128.trans (congrArg Value.bool (show (decide ((((allA xs 3).1).First) = ((xs[0]'(by first | omega | (simp only [List.length_set]; omega))).V))) = true from (decide_eq_true hb.2.2.2.2.1)))) (op_sub (k := .i64) (a := (xs.length : Int)) (b := 1) ((xs.length : Int) - 1) f133 rfl (xi64 (by omega) (by omega)) (kS hj619 rfl))
          · rintro ρ620 w621 hj622 ⟨f131, f134, f128, _⟩
            have hst := hj622.2
            refine go_yes 128 rfl (f128.trans (congrArg Value.bool (show (decide ((((allA xs 3).1).First) = ((xs[0]'(by first | omega | (simp only [List.length_set]; omega))).V))) = true from (decide_eq_true hb.2.2.2.2.1)))) (op_indexAddrN (E := sampE) (xs := xs) (xs.length - 1) Try.underlying22 Try.sizeOf32 f131 (hst.sl 1 rfl) f134 (by omega) (by first | omega | (simp only [List.length_set]; omega)) (fun a623 o624 p625 => ?_))
            exact kS hj622 ⟨_, _, rfl, p625⟩
          · rintro ρ626 w627 hj628 ⟨f135, f128, _⟩
            have hst := hj628.2
            obtain ⟨a629, o630, e631, p632⟩ := f135
            exact go_yes 128 rfl (f128.trans (congrArg Value.bool (show (decide ((((allA xs 3).1).First) = ((xs[0]'(by first | omega | (simp only [List.length_set]; omega))).V))) = true from (decide_eq_true hb.2.2.2.2.1)))) (op_fieldAddr (s := 0) Try.underlying32 rfl rfl Try.sizeOf2 e631 (kS hj628 ⟨_, _, rfl, (p632.drop 1)⟩))
          · rintro ρ633 w634 hj635 ⟨f136, f128, _⟩
            have hst := hj635.2
            obtain ⟨a636, o637, e638, p639⟩ := f136
            exact go_yes 128 rfl (f128.trans (congrArg Value.bool (show (decide ((((allA xs 3).1).First) = ((xs[0]'(by first | omega | (simp only [List.length_set]; omega))).V))) = true from (decide_eq_true hb.2.2.2.2.1)))) (op_load1 (u := (.int .i64 ((xs[(xs.length - 1)]'(by first | omega | (simp only [List.length_set]; omega))).V))) Try.isAgg2 e638 p639 (kS hj635 rfl))
          · rintro ρ640 w641 hj642 ⟨f130, f137, f128, _⟩
            have hst := hj642.2
            exact go_yes 128 rfl (f128.trans (congrArg Value.bool (show (decide ((((allA xs 3).1).First) = ((xs[0]'(by first | omega | (simp only [List.length_set]; omega))).V))) = true from (decide_eq_true hb.2.2.2.2.1)))) (op_eql (k := .i64) (a := ((allA xs 3).1).Last) (b := (xs[(xs.length - 1)]'(by first | omega | (simp only [List.length_set]; omega))).V) f130 f137 (kS hj642 rfl))
          · rintro ρ643 w644 hj645 ⟨f128, f138, _⟩
            have hst := hj645.2
            exact go_plain (op_pick_t (.bool (decide ((((allA xs 3).1).Last) = ((xs[(xs.length - 1)]'(by first | omega | (simp only [List.length_set]; omega))).V)))) (f128.trans (congrArg Value.bool (show (decide ((((allA xs 3).1).First) = ((xs[0]'(by first | omega | (simp only [List.length_set]; omega))).V))) = true from (decide_eq_true hb.2.2.2.2.1)))) f138 (kS hj645 rfl))
          · rintro ρ646 w647 hj648 ⟨f139, _⟩
            have hst := hj648.2
            exact go_plain (op_move (.bool (decide ((((allA xs 3).1).Last) = ((xs[(xs.length - 1)]'(by first | omega | (simp only [List.length_set]; omega))).V)))) f139 (kS hj648 rfl))
          · rintro ρ649 w650 hj651 ⟨f8, f140, _⟩
            have hst := hj651.2
            exact go_yes 140 rfl (f140.trans (congrArg Value.bool (show (decide ((((allA xs 3).1).Last) = ((xs[(xs.length - 1)]'(by first | omega | (simp only [List.length_set]; omega))).V))) = true from (decide_eq_true (hb.2.2.2.2.2.1.trans (congrArg Sample.V (getElem_congr_idx (by omega)))))))) (op_move (.bool lo) (f8.trans q36_8) (kS hj651 rfl))
          · rintro ρ652 w653 hj654 ⟨f140, f141, _⟩
            have hst := hj654.2
            exact go_plain (op_pick_t (.bool lo) (f140.trans (congrArg Value.bool (show (decide ((((allA xs 3).1).Last) = ((xs[(xs.length - 1)]'(by first | omega | (simp only [List.length_set]; omega))).V))) = true from (decide_eq_true (hb.2.2.2.2.2.1.trans (congrArg Sample.V (getElem_congr_idx (by omega)))))))) f141 (kS hj654 rfl))
          · rintro ρ655 w656 hj657 ⟨f142, _⟩
            have hst := hj657.2
            exact go_plain (op_move (.bool lo) f142 (kS hj657 rfl))
          · rintro ρ658 w659 hj660 ⟨f9, f143, _⟩
            have hst := hj660.2
            exact go_yes 143 rfl (f143.trans (congrArg Value.bool (show lo = true from (seen_end hlo (by omega) hb.2.2.2.2.2.2.2.2.1)))) (op_move (.bool hg) (f9.trans q36_9) (kS hj660 rfl))
          · rintro ρ661 w662 hj663 ⟨f143, f144, _⟩
            have hst := hj663.2
            exact go_plain (op_pick_t (.bool hg) (f143.trans (congrArg Value.bool (show lo = true from (seen_end hlo (by omega) hb.2.2.2.2.2.2.2.2.1)))) f144 (kS hj663 rfl))
          · rintro ρ664 w665 hj666 ⟨f145, _⟩
            have hst := hj666.2
            exact go_plain (op_move (.bool hg) f145 (kS hj666 rfl))
          · rintro ρ667 w668 hj669 ⟨f6, f146, _⟩
            have hst := hj669.2
            exact go_yes 146 rfl (f146.trans (congrArg Value.bool (show hg = true from (seen_end hhg (by omega) hb.2.2.2.2.2.2.2.2.2)))) (op_fieldAddr (s := 0) Try.underlying26 rfl rfl Try.sizeOf2 (f6.trans q36_6) (kS hj669 rfl))
          · rintro ρ670 w671 hj672 ⟨f147, f146, _⟩
            have hst := hj672.2
            exact go_yes 146 rfl (f146.trans (congrArg Value.bool (show hg = true from (seen_end hhg (by omega) hb.2.2.2.2.2.2.2.2.2)))) (op_load1 (u := (.int .i64 (((allA xs 3).1).From))) Try.isAgg2 f147 (hst.cell 0 rfl) (kS hj672 rfl))
          · rintro ρ673 w674 hj675 ⟨f148, f146, _⟩
            have hst := hj675.2
            exact go_yes 146 rfl (f146.trans (congrArg Value.bool (show hg = true from (seen_end hhg (by omega) hb.2.2.2.2.2.2.2.2.2)))) (op_eql (k := .i64) (a := ((allA xs 3).1).From) (b := 3) f148 rfl (kS hj675 rfl))
          · rintro ρ676 w677 hj678 ⟨f146, f149, _⟩
            have hst := hj678.2
            exact go_plain (op_pick_t (.bool (decide ((((allA xs 3).1).From) = 3))) (f146.trans (congrArg Value.bool (show hg = true from (seen_end hhg (by omega) hb.2.2.2.2.2.2.2.2.2)))) f149 (kS hj678 rfl))
          · rintro ρ679 w680 hj681 ⟨f150, _⟩
            have hst := hj681.2
            exact go_plain (op_assign (.bool (decide ((((allA xs 3).1).From) = 3))) f150 (kS hj681 rfl))
          · intro ρ682 w683 hbw683 hst hRw683 hkw683
            have uw683_0 : ρ682 0 = v_l := (hkw683 0 rfl).trans q36_0
            have uw683_11 : ρ682 11 = v_l := (hkw683 11 rfl).trans q36_11
            have uw683_12 : ρ682 12 = (.int .i64 (l.length : Int)) := (hkw683 12 rfl).trans q36_12
            have uw683_13 : ρ682 13 = (.bool (decide ((l.length : Int) < 1))) := (hkw683 13 rfl).trans q36_13
            have uw683_14 : ρ682 14 = (.bool (decide ((l.length : Int) < 1))) := (hkw683 14 rfl).trans q36_14
            have uw683_15 : ρ682 15 = v_l := (hkw683 15 rfl).trans q36_15
            have uw683_16 : ρ682 16 = (.int .i64 (l.length : Int)) := (hkw683 16 rfl).trans q36_16
            have uw683_17 : ρ682 17 = (.bool (decide (60 < (l.length : Int)))) := (hkw683 17 rfl).trans q36_17
            have uw683_18 : ρ682 18 = (.bool (decide (60 < (l.length : Int)))) := (hkw683 18 rfl).trans q36_18
            have uw683_21 : ρ682 21 = v_l := (hkw683 21 rfl).trans q36_21
            have uw683_22 : ρ682 22 = v11 := (hkw683 22 rfl).trans q36_22
            have uw683_5 : ρ682 5 = (.int .i64 (i : Int)) := (hkw683 5 rfl).trans q36_5
            have uw683_4 : ρ682 4 = (.int .i64 (sumS (xs.take i))) := (hkw683 4 rfl).trans q36_4
            have uw683_3 : ρ682 3 = v11 := (hkw683 3 rfl).trans q36_3
            have uw683_23 : ρ682 23 = (.int .i64 (i : Int)) := (hkw683 23 rfl).trans q36_23
            have uw683_24 : ρ682 24 = v11 := (hkw683 24 rfl).trans q36_24
            have uw683_25 : ρ682 25 = (.int .i64 (xs.length : Int)) := (hkw683 25 rfl).trans q36_25
            have uw683_26 : ρ682 26 = (.bool (decide ((i : Int) < (xs.length : Int)))) := (hkw683 26 rfl).trans q36_26
            have uw683_47 : ρ682 47 = v11 := (hkw683 47 rfl).trans q36_47
            have uw683_48 : ρ682 48 = (.tuple #[(.agg #[(.int .i64 (((allA xs 3).1).From)), (.int .i64 (((allA xs 3).1).Count)), (.int .i64 (((allA xs 3).1).Sum)), (.int .i64 (((allA xs 3).1).Min)), (.int .i64 (((allA xs 3).1).Max)), (.int .i64 (((allA xs 3).1).First)), (.int .i64 (((allA xs 3).1).Last))]), (.int .i64 ((allA xs 3).2))]) := (hkw683 48 rfl).trans q36_48
            have uw683_46 : ρ682 46 = (.tuple #[(.agg #[(.int .i64 (((allA xs 3).1).From)), (.int .i64 (((allA xs 3).1).Count)), (.int .i64 (((allA xs 3).1).Sum)), (.int .i64 (((allA xs 3).1).Min)), (.int .i64 (((allA xs 3).1).Max)), (.int .i64 (((allA xs 3).1).First)), (.int .i64 (((allA xs 3).1).Last))]), (.int .i64 ((allA xs 3).2))]) := (hkw683 46 rfl).trans q36_46
            have uw683_49 : ρ682 49 = (.agg #[(.int .i64 (((allA xs 3).1).From)), (.int .i64 (((allA xs 3).1).Count)), (.int .i64 (((allA xs 3).1).Sum)), (.int .i64 (((allA xs 3).1).Min)), (.int .i64 (((allA xs 3).1).Max)), (.int .i64 (((allA xs 3).1).First)), (.int .i64 (((allA xs 3).1).Last))]) := (hkw683 49 rfl).trans q36_49
            have uw683_50 : ρ682 50 = (.int .i64 ((allA xs 3).2)) := (hkw683 50 rfl).trans q36_50
            have uw683_6 : ρ682 6 = (.pointer (some ⟨g33, 0, none⟩)) := (hkw683 6 rfl).trans q36_6
            have uw683_10 : ρ682 10 = (.int .i64 (k : Int)) := (hkw683 10 rfl).trans q36_10
            have uw683_8 : ρ682 8 = (.bool lo) := (hkw683 8 rfl).trans q36_8
            have uw683_9 : ρ682 9 = (.bool hg) := (hkw683 9 rfl).trans q36_9
            have uw683_51 : ρ682 51 = (.int .i64 (k : Int)) := (hkw683 51 rfl).trans rfl
            have uw683_52 : ρ682 52 = v11 := (hkw683 52 rfl).trans rfl
            have uw683_53 : ρ682 53 = (.int .i64 (xs.length : Int)) := (hkw683 53 rfl).trans rfl
            have uw683_54 : ρ682 54 = (.bool (decide ((k : Int) < (xs.length : Int)))) := (hkw683 54 rfl).trans rfl
            have uw683_2 : ρ682 2 = (.bool (decide ((((allA xs 3).1).From) = 3))) := hRw683 54 2 rfl
            refine then_n ?_
            refine cE_ret ?_
            refine post_r _ (res1 (v := (.bool true)) (uw683_2.trans (congrArg Value.bool (show (decide ((((allA xs 3).1).From) = 3)) = true from (decide_eq_true hb.2.2.2.2.2.2.1))))) ?_
            exact ⟨rfl, hst.bare⟩

end Go.Proofs.Ytffnhcioponbbaa
