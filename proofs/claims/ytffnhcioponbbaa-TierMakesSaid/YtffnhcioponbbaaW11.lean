/- windows: c_Raw -/
import Derived.Test.YtffnhcioponbbaaW10
namespace Go.Proofs.Ytffnhcioponbbaa
open Go.RowKit

theorem c_Raw (w0 : World) (v_l : Value) (l : List Sample) (h_l : Sl w0 sampE v_l l) (k : Int) (hl : ∀ s ∈ l, s.ok) (hn : l.length ≤ 1000000) (k0 : -9223372036854775808 ≤ k) (k1 : k ≤ 9223372036854775807) :
    Calls Try.prog 21 #[v_l, (.int .i64 k)] w0 fun e w' => ∃ (r : Value), e = .returned (.tuple #[r, (.int .i64 ((rawA l k).2))]) ∧ St w0 w' [rowT 26 aggE r ((rawA l k).1)] := by
  refine calls_E (n := 62) (ts := [4, 5]) Try.func21 rfl rfl rfl (by simp) ?_
  have hst := St.start w0
  refine cE_seq ?_
  refine cE_region rfl ?_
  refine s_cons (op_assign (.slice none 0 0) rfl ?_)
  refine s_cons (op_assign (.int .i64 0) rfl ?_)
  refine s_nil ?_
  refine then_n ?_
  refine cE_scope ?_
  refine cE_seq ?_
  refine cE_seq ?_
  refine cE_region rfl ?_
  refine s_cons (op_move v_l rfl ?_)
  refine s_cons (op_call Try.call24 (evs_cons (v := v_l) rfl evs_nil) (c_Rising (w0 := w0) (v_l := v_l) (l := l) (h_l := (h_l.below hst.below))) ?_)
  rintro _ w1 ⟨rfl, hcall⟩
  refine ⟨_, rfl, ?_⟩
  have hst : St w0 w1 [] := hst.call hcall
  refine s_cons (op_not (b := risingA l) rfl ?_)
  refine s_cons (op_move (.bool (!(risingA l))) rfl ?_)
  rcases Bool.eq_false_or_eq_true (risingA l) with b2 | b2
  · have hri := b2
    refine s_yes 14 rfl (congrArg Value.bool (congrArg (! ·) b2)) (op_move (.int .i64 k) rfl ?_)
    refine s_yes 14 rfl (congrArg Value.bool (congrArg (! ·) b2)) (op_call Try.call35 (evs_cons (v := (.int .i64 k)) rfl evs_nil) (c_coarse (w0 := w1) (k := k)) ?_)
    rintro _ w3 ⟨rfl, hcall⟩
    refine ⟨_, rfl, ?_⟩
    have hst : St w0 w3 [] := hst.call hcall
    refine s_yes 14 rfl (congrArg Value.bool (congrArg (! ·) b2)) (op_not (b := coarseA k) rfl ?_)
    refine s_cons (op_pick_f (.bool (!(coarseA k))) (congrArg Value.bool (congrArg (! ·) b2)) rfl ?_)
    refine s_nil ?_
    refine then_n ?_
    rcases Bool.eq_false_or_eq_true (coarseA k) with b4 | b4
    · have hco := b4
      refine cE_cond false (congrArg Value.bool (congrArg (! ·) b4)) (fun h => by cases h) (fun _ => ?_)
      refine cE_skip ?_
      refine then_n ?_
      refine cE_seq ?_
      refine cE_region rfl ?_
      refine s_cons (op_assign (.slice none 0 0) rfl ?_)
      refine s_nil ?_
      refine then_n ?_
      refine cE_seq ?_
      refine cE_label ?_
      refine then_n ?_
      refine cE_seq ?_
      refine cE_block ?_
      replace hst : St w0 w3 [rowT 26 aggE (.slice none 0 0) ([])] := hst.nilRow 26 aggE
      refine cE_loop (fun (m : Nat) (ρ : Env) (w : World) => ∃ (v0 : Value) (rem : List Sample) (vo : Value) (out : List Agg) (f : Nat), m = rem.length ∧ ρ 1 = (.int .i64 k) ∧ ρ 11 = v_l ∧ ρ 12 = (.bool (risingA l)) ∧ ρ 13 = (.bool (!(risingA l))) ∧ ρ 14 = (.bool (!(risingA l))) ∧ ρ 15 = (.int .i64 k) ∧ ρ 16 = (.bool (coarseA k)) ∧ ρ 17 = (.bool (!(coarseA k))) ∧ ρ 18 = (.bool (!(coarseA k))) ∧ ρ 0 = v0 ∧ ρ 6 = vo ∧ St w0 w [rowT 26 aggE vo out] ∧ Sl w0 sampE v0 rem ∧ (∀ s ∈ rem, s.ok) ∧ rem.length ≤ f ∧ out.length + rem.length ≤ l.length ∧ rawA l k = rawL k f rem out) id _ ⟨v_l, l, (.slice none 0 0), [], l.length, rfl, rfl, rfl, rfl, rfl, rfl, rfl, rfl, rfl, rfl, rfl, rfl, hst, (by assumption), (by first | exact hl | exact fun s h => hok s (List.mem_of_mem_drop h)), (by first | omega | (simp only [List.length_drop, List.length_append, List.length_cons, List.length_nil]; omega)), (by first | omega | (simp only [List.length_drop, List.length_append, List.length_cons, List.length_nil]; omega)), (by first | exact hI.trans (raw_go (by omega) hf hw (by assumption)) | (unfold rawA; rw [if_pos ⟨hri, hco⟩]))⟩ ?_
      rintro m6 ρ7 w8 ⟨v0, rem, vo, out, f, hm6, q5_1, q5_11, q5_12, q5_13, q5_14, q5_15, q5_16, q5_17, q5_18, q5_0, q5_6, hst, hr, hok, hf, hout, hI⟩
      refine cE_seq ?_
      refine cE_seq ?_
      refine cE_region rfl ?_
      refine s_cons (op_move v0 q5_0 ?_)
      refine s_cons (op_len (E := sampE) (xs := rem) Try.underlying22 rfl hr ?_)
      refine s_cons (op_gtr (k := .i64) (a := (rem.length : Int)) (b := 0) rfl rfl ?_)
      refine s_nil ?_
      refine then_n ?_
      rcases Bool.eq_false_or_eq_true (decide (0 < (rem.length : Int))) with b9 | b9
      · have c10 : 0 < (rem.length : Int) := of_decide_eq_true b9
        refine cE_cond true (congrArg Value.bool b9) (fun _ => ?_) (fun h => by cases h)
        refine cE_skip ?_
        refine then_n ?_
        refine cE_block ?_
        refine cE_scope ?_
        refine cE_seq ?_
        refine cE_region rfl ?_
        refine s_cons (op_move v0 q5_0 ?_)
        refine s_cons (op_indexAddrN (E := sampE) (xs := rem) 0 Try.underlying22 Try.sizeOf32 rfl hr rfl (by omega) (by omega) (fun a11 o12 p13 => ?_))
        refine s_cons (op_fieldAddr (s := 0) Try.underlying32 rfl rfl Try.sizeOf2 rfl ?_)
        refine s_cons (op_load1 (u := (.int .i64 ((rem[0]'(by omega)).T))) Try.isAgg2 rfl (p13.below hst.below) ?_)
        refine s_cons (op_move (.int .i64 k) q5_1 ?_)
        refine s_cons (op_call Try.call30 (evs_cons (v := (.int .i64 ((rem[0]'(by omega)).T))) rfl (evs_cons (v := (.int .i64 k)) rfl evs_nil)) (c_Floor (w0 := w8) (t := (rem[0]'(by omega)).T) (k := k) (t0 := (hok _ (List.getElem_mem _)).1.1) (k0 := (by omega)) (t1 := (hok _ (List.getElem_mem _)).1.2) (k1 := (by omega))) ?_)
        rintro _ w14 ⟨rfl, hcall⟩
        refine ⟨_, rfl, ?_⟩
        have hst : St w0 w14 [rowT 26 aggE vo out] := hst.call hcall
        refine s_cons (op_assign (.int .i64 (floorA ((rem[0]'(by omega)).T) k)) rfl ?_)
        refine s_cons (op_assign (.int .i64 0) rfl ?_)
        refine s_nil ?_
        refine then_n ?_
        refine cE_seq ?_
        refine cE_label ?_
        refine then_n ?_
        refine cE_seq ?_
        refine cE_block ?_
        refine cE_loop (fun (m : Nat) (ρ : Env) (w : World) => ∃ (n : Nat), m = rem.length - n ∧ ρ 1 = (.int .i64 k) ∧ ρ 11 = v_l ∧ ρ 12 = (.bool (risingA l)) ∧ ρ 13 = (.bool (!(risingA l))) ∧ ρ 14 = (.bool (!(risingA l))) ∧ ρ 15 = (.int .i64 k) ∧ ρ 16 = (.bool (coarseA k)) ∧ ρ 17 = (.bool (!(coarseA k))) ∧ ρ 18 = (.bool (!(coarseA k))) ∧ ρ 0 = v0 ∧ ρ 6 = vo ∧ ρ 19 = v0 ∧ ρ 20 = (.int .i64 (rem.length : Int)) ∧ ρ 21 = (.bool (decide (0 < (rem.length : Int)))) ∧ ρ 22 = v0 ∧ ρ 23 = (.pointer (some ⟨a11, o12, none⟩)) ∧ ρ 24 = (.pointer (some ⟨a11, (o12 + 0), none⟩)) ∧ ρ 25 = (.int .i64 ((rem[0]'(by omega)).T)) ∧ ρ 26 = (.int .i64 k) ∧ ρ 27 = (.int .i64 (floorA ((rem[0]'(by omega)).T) k)) ∧ ρ 7 = (.int .i64 (floorA ((rem[0]'(by omega)).T) k)) ∧ ρ 8 = (.int .i64 (n : Int)) ∧ St w0 w [rowT 26 aggE vo out] ∧ n ≤ rem.length ∧ winLen k (floorA ((rem[0]'(by omega)).T) k) rem = n + winLen k (floorA ((rem[0]'(by omega)).T) k) (rem.drop n)) id _ ⟨0, rfl, q5_1, q5_11, q5_12, q5_13, q5_14, q5_15, q5_16, q5_17, q5_18, q5_0, q5_6, rfl, rfl, rfl, rfl, rfl, rfl, rfl, rfl, rfl, rfl, (congrArg (Value.int .i64) (show 0 = _ from by omega)), hst, (by omega), (by first | (rw [Nat.zero_add]; rfl) | exact hw0.trans (by rw [win_go (by omega) (by assumption)]; omega))⟩ ?_
        rintro m16 ρ17 w18 ⟨n, hm16, q15_1, q15_11, q15_12, q15_13, q15_14, q15_15, q15_16, q15_17, q15_18, q15_0, q15_6, q15_19, q15_20, q15_21, q15_22, q15_23, q15_24, q15_25, q15_26, q15_27, q15_7, q15_8, hst, hnr, hw0⟩
        have hel := fun (s : Sample) (h : s ∈ rem) => (hok s h).1
        refine cE_seq ?_
        refine cE_seq ?_
        refine cE_region rfl ?_
        refine s_cons (op_move (.int .i64 (n : Int)) q15_8 ?_)
        refine s_cons (op_move v0 q15_0 ?_)
        refine s_cons (op_len (E := sampE) (xs := rem) Try.underlying22 rfl hr ?_)
        refine s_cons (op_lss (k := .i64) (a := (n : Int)) (b := (rem.length : Int)) rfl rfl ?_)
        refine s_nil ?_
        refine then_n ?_
        rcases Bool.eq_false_or_eq_true (decide ((n : Int) < (rem.length : Int))) with b19 | b19
        · have c20 : (n : Int) < (rem.length : Int) := of_decide_eq_true b19
          refine cE_cond true (congrArg Value.bool b19) (fun _ => ?_) (fun h => by cases h)
          refine cE_skip ?_
          refine then_n ?_
          refine cE_block ?_
          refine cE_seq ?_
          refine cE_seq ?_
          refine cE_region rfl ?_
          refine s_cons (op_move v0 q15_0 ?_)
          refine s_cons (op_move (.int .i64 (n : Int)) q15_8 ?_)
          refine s_cons (op_indexAddrN (E := sampE) (xs := rem) n Try.underlying22 Try.sizeOf32 rfl hr rfl (by omega) (by omega) (fun a21 o22 p23 => ?_))
          refine s_cons (op_fieldAddr (s := 0) Try.underlying32 rfl rfl Try.sizeOf2 rfl ?_)
          refine s_cons (op_load1 (u := (.int .i64 ((rem[n]'(by omega)).T))) Try.isAgg2 rfl (p23.below hst.below) ?_)
          refine s_cons (op_move (.int .i64 k) q15_1 ?_)
          refine s_cons (op_call Try.call30 (evs_cons (v := (.int .i64 ((rem[n]'(by omega)).T))) rfl (evs_cons (v := (.int .i64 k)) rfl evs_nil)) (c_Floor (w0 := w18) (t := (rem[n]'(by omega)).T) (k := k) (t0 := (hok _ (List.getElem_mem _)).1.1) (k0 := (by omega)) (t1 := (hok _ (List.getElem_mem _)).1.2) (k1 := (by omega))) ?_)
          rintro _ w24 ⟨rfl, hcall⟩
          refine ⟨_, rfl, ?_⟩
          have hst : St w0 w24 [rowT 26 aggE vo out] := hst.call hcall
          refine s_cons (op_move (.int .i64 (floorA ((rem[0]'(by omega)).T) k)) q15_7 ?_)
          refine s_cons (op_neq (k := .i64) (a := (floorA ((rem[n]'(by omega)).T) k)) (b := (floorA ((rem[0]'(by omega)).T) k)) rfl rfl ?_)
          refine s_nil ?_
          refine then_n ?_
          rcases Bool.eq_false_or_eq_true (decide ((floorA ((rem[n]'(by omega)).T) k) = (floorA ((rem[0]'(by omega)).T) k))) with b25 | b25
          · have c26 : (floorA ((rem[n]'(by omega)).T) k) = (floorA ((rem[0]'(by omega)).T) k) := of_decide_eq_true b25
            refine cE_cond false (congrArg Value.bool (congrArg (! ·) b25)) (fun h => by cases h) (fun _ => ?_)
            refine cE_skip ?_
            refine then_n ?_
            refine cE_region rfl ?_
            refine s_cons (op_move (.int .i64 (n : Int)) q15_8 ?_)
            refine s_cons (op_add (k := .i64) (a := (n : Int)) (b := 1) ((n : Int) + 1) rfl rfl (xi64 (by omega) (by omega)) ?_)
            refine s_cons (op_assign (.int .i64 ((n : Int) + 1)) rfl ?_)
            refine s_nil ?_
            refine block_n (then_n ?_)
            exact ⟨_, ⟨(n + 1), rfl, q15_1, q15_11, q15_12, q15_13, q15_14, q15_15, q15_16, q15_17, q15_18, q15_0, q15_6, q15_19, q15_20, q15_21, q15_22, q15_23, q15_24, q15_25, q15_26, q15_27, q15_7, (congrArg (Value.int .i64) (show ((n : Int) + 1) = _ from by omega)), hst, (by omega), (by first | (rw [Nat.zero_add]; rfl) | exact hw0.trans (by rw [win_go (by omega) (by assumption)]; omega))⟩, (by simp only [id]; omega)⟩
          · have c27 : ¬ ((floorA ((rem[n]'(by omega)).T) k) = (floorA ((rem[0]'(by omega)).T) k)) := of_decide_eq_false b25
            refine cE_cond true (congrArg Value.bool (congrArg (! ·) b25)) (fun _ => ?_) (fun h => by cases h)
            refine cE_exit ?_
            refine then_x (block_miss (by decide) (then_x (block_hit (then_n ?_))))
            refine cE_seq ?_
            have hw : winLen k (floorA ((rem[0]'(by omega)).T) k) rem = n := hw0.trans (by first | rw [win_end (by omega), Nat.add_zero] | rw [win_no (by omega) (by assumption), Nat.add_zero])
            have hnp := win_pos (k := k) (l := rem) (by omega)
            rw [hw] at hnp
            refine cE_region rfl ?_
            refine s_cons (op_move v0 q15_0 ?_)
            refine s_cons (op_move (.int .i64 (n : Int)) q15_8 ?_)
            refine s_cons (op_slice_toN n (E := sampE) (xs := rem) Try.underlying22 Try.sizeOf32 rfl hr rfl (by omega) (by omega) (fun v28 hs29 => ?_))
            refine s_cons (op_move (.int .i64 (floorA ((rem[0]'(by omega)).T) k)) q15_7 ?_)
            refine s_cons (op_call Try.call15 (evs_cons (v := v28) rfl (evs_cons (v := (.int .i64 (floorA ((rem[0]'(by omega)).T) k))) rfl evs_nil)) (c_All (w0 := w24) (v_l := v28) (l := (rem.take n)) (h_l := (hs29.below hst.below)) (fr := (floorA ((rem[0]'(by omega)).T) k)) (hl := (fun s h => hok s (List.mem_of_mem_take h))) (fr0 := (by have := floorA_r ((rem[0]'(by omega)).T) k; omega)) (fr1 := (by have := floorA_r ((rem[0]'(by omega)).T) k; omega)) (hn := (by simp only [List.length_take]; omega))) ?_)
            rintro _ w30 ⟨rfl, hcall⟩
            refine ⟨_, rfl, ?_⟩
            have hst : St w0 w30 [rowT 26 aggE vo out] := hst.call hcall
            refine s_cons (op_move (.tuple #[(.agg #[(.int .i64 (((allA (rem.take n) (floorA ((rem[0]'(by omega)).T) k)).1).From)), (.int .i64 (((allA (rem.take n) (floorA ((rem[0]'(by omega)).T) k)).1).Count)), (.int .i64 (((allA (rem.take n) (floorA ((rem[0]'(by omega)).T) k)).1).Sum)), (.int .i64 (((allA (rem.take n) (floorA ((rem[0]'(by omega)).T) k)).1).Min)), (.int .i64 (((allA (rem.take n) (floorA ((rem[0]'(by omega)).T) k)).1).Max)), (.int .i64 (((allA (rem.take n) (floorA ((rem[0]'(by omega)).T) k)).1).First)), (.int .i64 (((allA (rem.take n) (floorA ((rem[0]'(by omega)).T) k)).1).Last))]), (.int .i64 ((allA (rem.take n) (floorA ((rem[0]'(by omega)).T) k)).2))]) rfl ?_)
            refine s_cons (op_extract (.agg #[(.int .i64 (((allA (rem.take n) (floorA ((rem[0]'(by omega)).T) k)).1).From)), (.int .i64 (((allA (rem.take n) (floorA ((rem[0]'(by omega)).T) k)).1).Count)), (.int .i64 (((allA (rem.take n) (floorA ((rem[0]'(by omega)).T) k)).1).Sum)), (.int .i64 (((allA (rem.take n) (floorA ((rem[0]'(by omega)).T) k)).1).Min)), (.int .i64 (((allA (rem.take n) (floorA ((rem[0]'(by omega)).T) k)).1).Max)), (.int .i64 (((allA (rem.take n) (floorA ((rem[0]'(by omega)).T) k)).1).First)), (.int .i64 (((allA (rem.take n) (floorA ((rem[0]'(by omega)).T) k)).1).Last))]) rfl rfl ?_)
            refine s_cons (op_extract (.int .i64 ((allA (rem.take n) (floorA ((rem[0]'(by omega)).T) k)).2)) rfl rfl ?_)
            refine s_cons (op_alloc (cs := #[(.int .i64 0), (.int .i64 0), (.int .i64 0), (.int .i64 0), (.int .i64 0), (.int .i64 0), (.int .i64 0)]) hst Try.zeroValue26 rfl (fun g31 w32 hst _ => ?_))
            replace hst : St w0 w32 [.blk g31 26 #[(.int .i64 0), (.int .i64 0), (.int .i64 0), (.int .i64 0), (.int .i64 0), (.int .i64 0), (.int .i64 0)], rowT 26 aggE vo out] := hst
            refine s_cons0 (op_storeAll hst 0 rfl Try.sizeOf26 rfl rfl rfl rfl (by simp [Value.oneCell']) (fun w33 hst => ?_))
            replace hst : St w0 w33 [.blk g31 26 #[(.int .i64 (((allA (rem.take n) (floorA ((rem[0]'(by omega)).T) k)).1).From)), (.int .i64 (((allA (rem.take n) (floorA ((rem[0]'(by omega)).T) k)).1).Count)), (.int .i64 (((allA (rem.take n) (floorA ((rem[0]'(by omega)).T) k)).1).Sum)), (.int .i64 (((allA (rem.take n) (floorA ((rem[0]'(by omega)).T) k)).1).Min)), (.int .i64 (((allA (rem.take n) (floorA ((rem[0]'(by omega)).T) k)).1).Max)), (.int .i64 (((allA (rem.take n) (floorA ((rem[0]'(by omega)).T) k)).1).First)), (.int .i64 (((allA (rem.take n) (floorA ((rem[0]'(by omega)).T) k)).1).Last))], rowT 26 aggE vo out] := hst
            refine s_cons (op_assign (.int .i64 ((allA (rem.take n) (floorA ((rem[0]'(by omega)).T) k)).2)) rfl ?_)
            refine s_nil ?_
            refine then_n ?_
            refine cE_seq ?_
            refine cE_seq ?_
            refine cE_region rfl ?_
            refine s_cons (op_move (.int .i64 ((allA (rem.take n) (floorA ((rem[0]'(by omega)).T) k)).2)) rfl ?_)
            refine s_cons (op_neq (k := .i64) (a := (allA (rem.take n) (floorA ((rem[0]'(by omega)).T) k)).2) (b := 0) rfl rfl ?_)
            refine s_nil ?_
            refine then_n ?_
            rcases Bool.eq_false_or_eq_true (decide (((allA (rem.take n) (floorA ((rem[0]'(by omega)).T) k)).2) = 0)) with b34 | b34
            · have c35 : ((allA (rem.take n) (floorA ((rem[0]'(by omega)).T) k)).2) = 0 := of_decide_eq_true b34
              refine cE_cond false (congrArg Value.bool (congrArg (! ·) b34)) (fun h => by cases h) (fun _ => ?_)
              refine cE_skip ?_
              refine then_n ?_
              refine cE_seq ?_
              have hM42 : stabML [3] [(kEq vo), (kEq (.agg #[(.int .i64 (((allA (rem.take n) (floorA ((rem[0]'(by omega)).T) k)).1).From)), (.int .i64 (((allA (rem.take n) (floorA ((rem[0]'(by omega)).T) k)).1).Count)), (.int .i64 (((allA (rem.take n) (floorA ((rem[0]'(by omega)).T) k)).1).Sum)), (.int .i64 (((allA (rem.take n) (floorA ((rem[0]'(by omega)).T) k)).1).Min)), (.int .i64 (((allA (rem.take n) (floorA ((rem[0]'(by omega)).T) k)).1).Max)), (.int .i64 (((allA (rem.take n) (floorA ((rem[0]'(by omega)).T) k)).1).First)), (.int .i64 (((allA (rem.take n) (floorA ((rem[0]'(by omega)).T) k)).1).Last))])), (kSlU [3] aggE ([((allA (rem.take n) (floorA ((rem[0]'(by omega)).T) k)).1)])), (kSt w0 (fun v38 => [.blk g31 26 #[(.int .i64 (((allA (rem.take n) (floorA ((rem[0]'(by omega)).T) k)).1).From)), (.int .i64 (((allA (rem.take n) (floorA ((rem[0]'(by omega)).T) k)).1).Count)), (.int .i64 (((allA (rem.take n) (floorA ((rem[0]'(by omega)).T) k)).1).Sum)), (.int .i64 (((allA (rem.take n) (floorA ((rem[0]'(by omega)).T) k)).1).Min)), (.int .i64 (((allA (rem.take n) (floorA ((rem[0]'(by omega)).T) k)).1).Max)), (.int .i64 (((allA (rem.take n) (floorA ((rem[0]'(by omega)).T) k)).1).First)), (.int .i64 (((allA (rem.take n) (floorA ((rem[0]'(by omega)).T) k)).1).Last))], rowT 26 aggE v38 (out ++ ([((allA (rem.take n) (floorA ((rem[0]'(by omega)).T) k)).1)]))])), (kEq v0), (kEq (.int .i64 (n : Int))), (kSl0 w0 sampE (rem.drop n)), (kSt w0 (fun v38 => [.blk g31 26 #[(.int .i64 (((allA (rem.take n) (floorA ((rem[0]'(by omega)).T) k)).1).From)), (.int .i64 (((allA (rem.take n) (floorA ((rem[0]'(by omega)).T) k)).1).Count)), (.int .i64 (((allA (rem.take n) (floorA ((rem[0]'(by omega)).T) k)).1).Sum)), (.int .i64 (((allA (rem.take n) (floorA ((rem[0]'(by omega)).T) k)).1).Min)), (.int .i64 (((allA (rem.take n) (floorA ((rem[0]'(by omega)).T) k)).1).Max)), (.int .i64 (((allA (rem.take n) (floorA ((rem[0]'(by omega)).T) k)).1).First)), (.int .i64 (((allA (rem.take n) (floorA ((rem[0]'(by omega)).T) k)).1).Last))], rowT 26 aggE v38 (out ++ ([((allA (rem.take n) (floorA ((rem[0]'(by omega)).T) k)).1)]))])), (kSl0 w0 sampE (rem.drop n))] := ⟨mEq, mEq, mSlU, mSt, mEq, mEq, mSl0, mSt, mSl0, trivial⟩
              refine cE_regionK (fun (D : Nat → Bool) (w : World) => St w0 w [.blk g31 26 #[(.int .i64 (((allA (rem.take n) (floorA ((rem[0]'(by omega)).T) k)).1).From)), (.int .i64 (((allA (rem.take n) (floorA ((rem[0]'(by omega)).T) k)).1).Count)), (.int .i64 (((allA (rem.take n) (floorA ((rem[0]'(by omega)).T) k)).1).Sum)), (.int .i64 (((allA (rem.take n) (floorA ((rem[0]'(by omega)).T) k)).1).Min)), (.int .i64 (((allA (rem.take n) (floorA ((rem[0]'(by omega)).T) k)).1).Max)), (.int .i64 (((allA (rem.take n) (floorA ((rem[0]'(by omega)).T) k)).1).First)), (.int .i64 (((allA (rem.take n) (floorA ((rem[0]'(by omega)).T) k)).1).Last))]] ∧ (D 3 = false → St w0 w [.blk g31 26 #[(.int .i64 (((allA (rem.take n) (floorA ((rem[0]'(by omega)).T) k)).1).From)), (.int .i64 (((allA (rem.take n) (floorA ((rem[0]'(by omega)).T) k)).1).Count)), (.int .i64 (((allA (rem.take n) (floorA ((rem[0]'(by omega)).T) k)).1).Sum)), (.int .i64 (((allA (rem.take n) (floorA ((rem[0]'(by omega)).T) k)).1).Min)), (.int .i64 (((allA (rem.take n) (floorA ((rem[0]'(by omega)).T) k)).1).Max)), (.int .i64 (((allA (rem.take n) (floorA ((rem[0]'(by omega)).T) k)).1).First)), (.int .i64 (((allA (rem.take n) (floorA ((rem[0]'(by omega)).T) k)).1).Last))], rowT 26 aggE vo out])) [[(6, none)], [(9, none)], [(55, some 1)], [(54, some 0), (56, some 2)], [(0, none)], [(8, none)], [(58, some 4), (59, some 5)], [(57, some 3)], [(60, some 6)]] (RofK [(kEq vo), (kEq (.agg #[(.int .i64 (((allA (rem.take n) (floorA ((rem[0]'(by omega)).T) k)).1).From)), (.int .i64 (((allA (rem.take n) (floorA ((rem[0]'(by omega)).T) k)).1).Count)), (.int .i64 (((allA (rem.take n) (floorA ((rem[0]'(by omega)).T) k)).1).Sum)), (.int .i64 (((allA (rem.take n) (floorA ((rem[0]'(by omega)).T) k)).1).Min)), (.int .i64 (((allA (rem.take n) (floorA ((rem[0]'(by omega)).T) k)).1).Max)), (.int .i64 (((allA (rem.take n) (floorA ((rem[0]'(by omega)).T) k)).1).First)), (.int .i64 (((allA (rem.take n) (floorA ((rem[0]'(by omega)).T) k)).1).Last))])), (kSlU [3] aggE ([((allA (rem.take n) (floorA ((rem[0]'(by omega)).T) k)).1)])), (kSt w0 (fun v38 => [.blk g31 26 #[(.int .i64 (((allA (rem.take n) (floorA ((rem[0]'(by omega)).T) k)).1).From)), (.int .i64 (((allA (rem.take n) (floorA ((rem[0]'(by omega)).T) k)).1).Count)), (.int .i64 (((allA (rem.take n) (floorA ((rem[0]'(by omega)).T) k)).1).Sum)), (.int .i64 (((allA (rem.take n) (floorA ((rem[0]'(by omega)).T) k)).1).Min)), (.int .i64 (((allA (rem.take n) (floorA ((rem[0]'(by omega)).T) k)).1).Max)), (.int .i64 (((allA (rem.take n) (floorA ((rem[0]'(by omega)).T) k)).1).First)), (.int .i64 (((allA (rem.take n) (floorA ((rem[0]'(by omega)).T) k)).1).Last))], rowT 26 aggE v38 (out ++ ([((allA (rem.take n) (floorA ((rem[0]'(by omega)).T) k)).1)]))])), (kEq v0), (kEq (.int .i64 (n : Int))), (kSl0 w0 sampE (rem.drop n)), (kSt w0 (fun v38 => [.blk g31 26 #[(.int .i64 (((allA (rem.take n) (floorA ((rem[0]'(by omega)).T) k)).1).From)), (.int .i64 (((allA (rem.take n) (floorA ((rem[0]'(by omega)).T) k)).1).Count)), (.int .i64 (((allA (rem.take n) (floorA ((rem[0]'(by omega)).T) k)).1).Sum)), (.int .i64 (((allA (rem.take n) (floorA ((rem[0]'(by omega)).T) k)).1).Min)), (.int .i64 (((allA (rem.take n) (floorA ((rem[0]'(by omega)).T) k)).1).Max)), (.int .i64 (((allA (rem.take n) (floorA ((rem[0]'(by omega)).T) k)).1).First)), (.int .i64 (((allA (rem.take n) (floorA ((rem[0]'(by omega)).T) k)).1).Last))], rowT 26 aggE v38 (out ++ ([((allA (rem.take n) (floorA ((rem[0]'(by omega)).T) k)).1)]))])), (kSl0 w0 sampE (rem.drop n))]) (by kernel_rfl) rfl (by kernel_rfl) ⟨hst.drewW.sub (.cons_cons _ (.cons _ .slnil)), (fun _ => hst.drewW)⟩ ⟨?_, ?_, ?_, ?_, ?_, ?_, ?_, ?_, ?_, trivial⟩ ?_
              · rintro D43 ρ44 w45 hD46 hE47 hC48 hJ49 - ⟨f6, _⟩
                have hst := hJ49.2 (not_yet hD46 (fun hm => (hC48 3 0 hm (by kernel_rfl))))
                exact go_plain (op_move vo (f6.trans q15_6) (kN0 (i := 0) hM42 (by decide) (by exact hJ49) (by exact rfl)))
              · rintro D50 ρ51 w52 hD53 hE54 hC55 hJ56 - ⟨f9, _⟩
                have hst := hJ56.2 (not_yet hD53 (fun hm => (hC55 2 1 (hC55 3 2 hm (by kernel_rfl)) (by kernel_rfl))))
                exact go_plain (op_loadN (cs := [(.int .i64 (((allA (rem.take n) (floorA ((rem[0]'(by omega)).T) k)).1).From)), (.int .i64 (((allA (rem.take n) (floorA ((rem[0]'(by omega)).T) k)).1).Count)), (.int .i64 (((allA (rem.take n) (floorA ((rem[0]'(by omega)).T) k)).1).Sum)), (.int .i64 (((allA (rem.take n) (floorA ((rem[0]'(by omega)).T) k)).1).Min)), (.int .i64 (((allA (rem.take n) (floorA ((rem[0]'(by omega)).T) k)).1).Max)), (.int .i64 (((allA (rem.take n) (floorA ((rem[0]'(by omega)).T) k)).1).First)), (.int .i64 (((allA (rem.take n) (floorA ((rem[0]'(by omega)).T) k)).1).Last))]) Try.isAgg26 Try.sizeOf26 (f9.trans rfl) (Pt.of (hst.cell 0 rfl) rfl) rfl (kN0 (i := 1) hM42 (by decide) (by exact hJ56) (by exact rfl)))
              · rintro D57 ρ58 w59 hD60 hE61 hC62 hJ63 - ⟨f55, _⟩
                have hst := hJ63.2 (not_yet hD60 (fun hm => (hC62 3 2 hm (by kernel_rfl))))
                have hst := St.start w59
                refine go_plain (op_buildSlice (E := aggE) [((allA (rem.take n) (floorA ((rem[0]'(by omega)).T) k)).1)] hst Try.underlying41 Try.sizeOf26 Try.zeroValue26 (evp_cons (v := (.agg #[(.int .i64 (((allA (rem.take n) (floorA ((rem[0]'(by omega)).T) k)).1).From)), (.int .i64 (((allA (rem.take n) (floorA ((rem[0]'(by omega)).T) k)).1).Count)), (.int .i64 (((allA (rem.take n) (floorA ((rem[0]'(by omega)).T) k)).1).Sum)), (.int .i64 (((allA (rem.take n) (floorA ((rem[0]'(by omega)).T) k)).1).Min)), (.int .i64 (((allA (rem.take n) (floorA ((rem[0]'(by omega)).T) k)).1).Max)), (.int .i64 (((allA (rem.take n) (floorA ((rem[0]'(by omega)).T) k)).1).First)), (.int .i64 (((allA (rem.take n) (floorA ((rem[0]'(by omega)).T) k)).1).Last))])) f55 evp_nil) (parts_cons rfl parts_nil) rfl (by decide) (fun v64 w65 hst => ?_))
                exact kN (i := 2) hM42 (by decide) hst.below (by exact ⟨hJ63.1.ext hst.below, (fun x0 => (hJ63.2 x0).ext hst.below)⟩) (by exact fun _ => hst.sl 0 rfl)
              · rintro D66 ρ67 w68 hD69 hE70 hC71 hJ72 - ⟨f54, f56, _⟩
                have hst := hJ72.2 hD69
                have hs73 := f56 (by intro m hm; obtain rfl := List.mem_singleton.1 hm; exact hD69)
                have hI76 : stabIL 3 D66 0 [(kEq vo), (kEq (.agg #[(.int .i64 (((allA (rem.take n) (floorA ((rem[0]'(by omega)).T) k)).1).From)), (.int .i64 (((allA (rem.take n) (floorA ((rem[0]'(by omega)).T) k)).1).Count)), (.int .i64 (((allA (rem.take n) (floorA ((rem[0]'(by omega)).T) k)).1).Sum)), (.int .i64 (((allA (rem.take n) (floorA ((rem[0]'(by omega)).T) k)).1).Min)), (.int .i64 (((allA (rem.take n) (floorA ((rem[0]'(by omega)).T) k)).1).Max)), (.int .i64 (((allA (rem.take n) (floorA ((rem[0]'(by omega)).T) k)).1).First)), (.int .i64 (((allA (rem.take n) (floorA ((rem[0]'(by omega)).T) k)).1).Last))])), (kSlU [3] aggE ([((allA (rem.take n) (floorA ((rem[0]'(by omega)).T) k)).1)])), (kSt w0 (fun v38 => [.blk g31 26 #[(.int .i64 (((allA (rem.take n) (floorA ((rem[0]'(by omega)).T) k)).1).From)), (.int .i64 (((allA (rem.take n) (floorA ((rem[0]'(by omega)).T) k)).1).Count)), (.int .i64 (((allA (rem.take n) (floorA ((rem[0]'(by omega)).T) k)).1).Sum)), (.int .i64 (((allA (rem.take n) (floorA ((rem[0]'(by omega)).T) k)).1).Min)), (.int .i64 (((allA (rem.take n) (floorA ((rem[0]'(by omega)).T) k)).1).Max)), (.int .i64 (((allA (rem.take n) (floorA ((rem[0]'(by omega)).T) k)).1).First)), (.int .i64 (((allA (rem.take n) (floorA ((rem[0]'(by omega)).T) k)).1).Last))], rowT 26 aggE v38 (out ++ ([((allA (rem.take n) (floorA ((rem[0]'(by omega)).T) k)).1)]))])), (kEq v0), (kEq (.int .i64 (n : Int))), (kSl0 w0 sampE (rem.drop n)), (kSt w0 (fun v38 => [.blk g31 26 #[(.int .i64 (((allA (rem.take n) (floorA ((rem[0]'(by omega)).T) k)).1).From)), (.int .i64 (((allA (rem.take n) (floorA ((rem[0]'(by omega)).T) k)).1).Count)), (.int .i64 (((allA (rem.take n) (floorA ((rem[0]'(by omega)).T) k)).1).Sum)), (.int .i64 (((allA (rem.take n) (floorA ((rem[0]'(by omega)).T) k)).1).Min)), (.int .i64 (((allA (rem.take n) (floorA ((rem[0]'(by omega)).T) k)).1).Max)), (.int .i64 (((allA (rem.take n) (floorA ((rem[0]'(by omega)).T) k)).1).First)), (.int .i64 (((allA (rem.take n) (floorA ((rem[0]'(by omega)).T) k)).1).Last))], rowT 26 aggE v38 (out ++ ([((allA (rem.take n) (floorA ((rem[0]'(by omega)).T) k)).1)]))])), (kSl0 w0 sampE (rem.drop n))] := ⟨Or.inr (Or.inr iEq), Or.inr (Or.inr iEq), Or.inr (Or.inr (iSlU (by decide))), Or.inl rfl, Or.inr (Or.inr iEq), Or.inr (Or.inr iEq), Or.inr (Or.inr iSl0), Or.inr (Or.inl (not_yet hD69 (fun hm => (hC71 7 3 hm (by kernel_rfl))))), Or.inr (Or.inr iSl0), trivial⟩
                refine go_plain (op_append (E := aggE) (xs := out) (ys := [((allA (rem.take n) (floorA ((rem[0]'(by omega)).T) k)).1)]) (z := (.agg #[(.int .i64 0), (.int .i64 0), (.int .i64 0), (.int .i64 0), (.int .i64 0), (.int .i64 0), (.int .i64 0)])) (bytes := 56) hst 1 rfl Try.underlying41 (by kernel_rfl) rfl f54 rfl hs73 (by first | omega | (simp; omega)) (by first | omega | (simp; omega)) (fun v74 w75 hst => ?_))
                replace hst : St w0 w75 [.blk g31 26 #[(.int .i64 (((allA (rem.take n) (floorA ((rem[0]'(by omega)).T) k)).1).From)), (.int .i64 (((allA (rem.take n) (floorA ((rem[0]'(by omega)).T) k)).1).Count)), (.int .i64 (((allA (rem.take n) (floorA ((rem[0]'(by omega)).T) k)).1).Sum)), (.int .i64 (((allA (rem.take n) (floorA ((rem[0]'(by omega)).T) k)).1).Min)), (.int .i64 (((allA (rem.take n) (floorA ((rem[0]'(by omega)).T) k)).1).Max)), (.int .i64 (((allA (rem.take n) (floorA ((rem[0]'(by omega)).T) k)).1).First)), (.int .i64 (((allA (rem.take n) (floorA ((rem[0]'(by omega)).T) k)).1).Last))], rowT 26 aggE v74 (out ++ ([((allA (rem.take n) (floorA ((rem[0]'(by omega)).T) k)).1)]))] := hst
                exact kI (i := 3) hI76 (by exact ⟨hst.sub (.cons_cons _ (.cons _ .slnil)), (fun h => absurd h (fun h => Bool.noConfusion h))⟩) (by exact hst)
              · rintro D77 ρ78 w79 hD80 hE81 hC82 hJ83 - ⟨f0, _⟩
                have hst := hJ83.1
                exact go_plain (op_move v0 (f0.trans q15_0) (kN0 (i := 4) hM42 (by decide) (by exact hJ83) (by exact rfl)))
              · rintro D84 ρ85 w86 hD87 hE88 hC89 hJ90 - ⟨f8, _⟩
                have hst := hJ90.1
                exact go_plain (op_move (.int .i64 (n : Int)) (f8.trans q15_8) (kN0 (i := 5) hM42 (by decide) (by exact hJ90) (by exact rfl)))
              · rintro D91 ρ92 w93 hD94 hE95 hC96 hJ97 - ⟨f58, f59, _⟩
                have hst := hJ97.1
                refine go_plain (op_slice_fromN n (E := sampE) (xs := rem) Try.underlying22 Try.sizeOf32 f58 hr f59 (by omega) (by omega) (fun v98 hs99 => ?_))
                exact (kN0 (i := 6) hM42 (by decide) (by exact hJ97) (by exact hs99))
              · rintro D100 ρ101 w102 hD103 hE104 hC105 hJ106 - ⟨f57, _⟩
                have hst := hJ106.1
                obtain ⟨v107, e108⟩ : ∃ x, ρ101 57 = x := ⟨_, rfl⟩
                have hn109 := f57
                rw [e108] at hn109
                exact go_plain (op_assign v107 e108 (kN0 (i := 7) hM42 (by decide) (by exact hJ106) (by exact hn109)))
              · rintro D110 ρ111 w112 hD113 hE114 hC115 hJ116 - ⟨f60, _⟩
                have hst := hJ116.1
                have hs117 := f60
                exact go_plain (op_assign _ rfl (kN0 (i := 8) hM42 (by decide) (by exact hJ116) (by exact hs117)))
              · intro ρ118 w119 Dw119 hallw119 hJw119 hRw119 hkw119
                obtain ⟨v38, uw119_6⟩ : ∃ x, ρ118 6 = x := ⟨_, rfl⟩
                have hst : St w0 w119 [.blk g31 26 #[(.int .i64 (((allA (rem.take n) (floorA ((rem[0]'(by omega)).T) k)).1).From)), (.int .i64 (((allA (rem.take n) (floorA ((rem[0]'(by omega)).T) k)).1).Count)), (.int .i64 (((allA (rem.take n) (floorA ((rem[0]'(by omega)).T) k)).1).Sum)), (.int .i64 (((allA (rem.take n) (floorA ((rem[0]'(by omega)).T) k)).1).Min)), (.int .i64 (((allA (rem.take n) (floorA ((rem[0]'(by omega)).T) k)).1).Max)), (.int .i64 (((allA (rem.take n) (floorA ((rem[0]'(by omega)).T) k)).1).First)), (.int .i64 (((allA (rem.take n) (floorA ((rem[0]'(by omega)).T) k)).1).Last))], rowT 26 aggE v38 (out ++ ([((allA (rem.take n) (floorA ((rem[0]'(by omega)).T) k)).1)]))] := by have h := hRw119 7 6 rfl; rw [uw119_6] at h; exact h
                have uw119_1 : ρ118 1 = (.int .i64 k) := (hkw119 1 rfl).trans q15_1
                have uw119_11 : ρ118 11 = v_l := (hkw119 11 rfl).trans q15_11
                have uw119_12 : ρ118 12 = (.bool (risingA l)) := (hkw119 12 rfl).trans q15_12
                have uw119_13 : ρ118 13 = (.bool (!(risingA l))) := (hkw119 13 rfl).trans q15_13
                have uw119_14 : ρ118 14 = (.bool (!(risingA l))) := (hkw119 14 rfl).trans q15_14
                have uw119_15 : ρ118 15 = (.int .i64 k) := (hkw119 15 rfl).trans q15_15
                have uw119_16 : ρ118 16 = (.bool (coarseA k)) := (hkw119 16 rfl).trans q15_16
                have uw119_17 : ρ118 17 = (.bool (!(coarseA k))) := (hkw119 17 rfl).trans q15_17
                have uw119_18 : ρ118 18 = (.bool (!(coarseA k))) := (hkw119 18 rfl).trans q15_18
                have uw119_19 : ρ118 19 = v0 := (hkw119 19 rfl).trans q15_19
                have uw119_20 : ρ118 20 = (.int .i64 (rem.length : Int)) := (hkw119 20 rfl).trans q15_20
                have uw119_21 : ρ118 21 = (.bool (decide (0 < (rem.length : Int)))) := (hkw119 21 rfl).trans q15_21
                have uw119_22 : ρ118 22 = v0 := (hkw119 22 rfl).trans q15_22
                have uw119_23 : ρ118 23 = (.pointer (some ⟨a11, o12, none⟩)) := (hkw119 23 rfl).trans q15_23
                have uw119_24 : ρ118 24 = (.pointer (some ⟨a11, (o12 + 0), none⟩)) := (hkw119 24 rfl).trans q15_24
                have uw119_25 : ρ118 25 = (.int .i64 ((rem[0]'(by omega)).T)) := (hkw119 25 rfl).trans q15_25
                have uw119_26 : ρ118 26 = (.int .i64 k) := (hkw119 26 rfl).trans q15_26
                have uw119_27 : ρ118 27 = (.int .i64 (floorA ((rem[0]'(by omega)).T) k)) := (hkw119 27 rfl).trans q15_27
                have uw119_7 : ρ118 7 = (.int .i64 (floorA ((rem[0]'(by omega)).T) k)) := (hkw119 7 rfl).trans q15_7
                have uw119_8 : ρ118 8 = (.int .i64 (n : Int)) := (hkw119 8 rfl).trans q15_8
                have uw119_28 : ρ118 28 = (.int .i64 (n : Int)) := (hkw119 28 rfl).trans rfl
                have uw119_29 : ρ118 29 = v0 := (hkw119 29 rfl).trans rfl
                have uw119_30 : ρ118 30 = (.int .i64 (rem.length : Int)) := (hkw119 30 rfl).trans rfl
                have uw119_31 : ρ118 31 = (.bool (decide ((n : Int) < (rem.length : Int)))) := (hkw119 31 rfl).trans rfl
                have uw119_32 : ρ118 32 = v0 := (hkw119 32 rfl).trans rfl
                have uw119_33 : ρ118 33 = (.int .i64 (n : Int)) := (hkw119 33 rfl).trans rfl
                have uw119_34 : ρ118 34 = (.pointer (some ⟨a21, o22, none⟩)) := (hkw119 34 rfl).trans rfl
                have uw119_35 : ρ118 35 = (.pointer (some ⟨a21, (o22 + 0), none⟩)) := (hkw119 35 rfl).trans rfl
                have uw119_36 : ρ118 36 = (.int .i64 ((rem[n]'(by omega)).T)) := (hkw119 36 rfl).trans rfl
                have uw119_37 : ρ118 37 = (.int .i64 k) := (hkw119 37 rfl).trans rfl
                have uw119_38 : ρ118 38 = (.int .i64 (floorA ((rem[n]'(by omega)).T) k)) := (hkw119 38 rfl).trans rfl
                have uw119_39 : ρ118 39 = (.int .i64 (floorA ((rem[0]'(by omega)).T) k)) := (hkw119 39 rfl).trans rfl
                have uw119_40 : ρ118 40 = (.bool (!decide ((floorA ((rem[n]'(by omega)).T) k) = (floorA ((rem[0]'(by omega)).T) k)))) := (hkw119 40 rfl).trans rfl
                have uw119_44 : ρ118 44 = v0 := (hkw119 44 rfl).trans rfl
                have uw119_45 : ρ118 45 = (.int .i64 (n : Int)) := (hkw119 45 rfl).trans rfl
                have uw119_46 : ρ118 46 = v28 := (hkw119 46 rfl).trans rfl
                have uw119_47 : ρ118 47 = (.int .i64 (floorA ((rem[0]'(by omega)).T) k)) := (hkw119 47 rfl).trans rfl
                have uw119_48 : ρ118 48 = (.tuple #[(.agg #[(.int .i64 (((allA (rem.take n) (floorA ((rem[0]'(by omega)).T) k)).1).From)), (.int .i64 (((allA (rem.take n) (floorA ((rem[0]'(by omega)).T) k)).1).Count)), (.int .i64 (((allA (rem.take n) (floorA ((rem[0]'(by omega)).T) k)).1).Sum)), (.int .i64 (((allA (rem.take n) (floorA ((rem[0]'(by omega)).T) k)).1).Min)), (.int .i64 (((allA (rem.take n) (floorA ((rem[0]'(by omega)).T) k)).1).Max)), (.int .i64 (((allA (rem.take n) (floorA ((rem[0]'(by omega)).T) k)).1).First)), (.int .i64 (((allA (rem.take n) (floorA ((rem[0]'(by omega)).T) k)).1).Last))]), (.int .i64 ((allA (rem.take n) (floorA ((rem[0]'(by omega)).T) k)).2))]) := (hkw119 48 rfl).trans rfl
                have uw119_43 : ρ118 43 = (.tuple #[(.agg #[(.int .i64 (((allA (rem.take n) (floorA ((rem[0]'(by omega)).T) k)).1).From)), (.int .i64 (((allA (rem.take n) (floorA ((rem[0]'(by omega)).T) k)).1).Count)), (.int .i64 (((allA (rem.take n) (floorA ((rem[0]'(by omega)).T) k)).1).Sum)), (.int .i64 (((allA (rem.take n) (floorA ((rem[0]'(by omega)).T) k)).1).Min)), (.int .i64 (((allA (rem.take n) (floorA ((rem[0]'(by omega)).T) k)).1).Max)), (.int .i64 (((allA (rem.take n) (floorA ((rem[0]'(by omega)).T) k)).1).First)), (.int .i64 (((allA (rem.take n) (floorA ((rem[0]'(by omega)).T) k)).1).Last))]), (.int .i64 ((allA (rem.take n) (floorA ((rem[0]'(by omega)).T) k)).2))]) := (hkw119 43 rfl).trans rfl
                have uw119_49 : ρ118 49 = (.agg #[(.int .i64 (((allA (rem.take n) (floorA ((rem[0]'(by omega)).T) k)).1).From)), (.int .i64 (((allA (rem.take n) (floorA ((rem[0]'(by omega)).T) k)).1).Count)), (.int .i64 (((allA (rem.take n) (floorA ((rem[0]'(by omega)).T) k)).1).Sum)), (.int .i64 (((allA (rem.take n) (floorA ((rem[0]'(by omega)).T) k)).1).Min)), (.int .i64 (((allA (rem.take n) (floorA ((rem[0]'(by omega)).T) k)).1).Max)), (.int .i64 (((allA (rem.take n) (floorA ((rem[0]'(by omega)).T) k)).1).First)), (.int .i64 (((allA (rem.take n) (floorA ((rem[0]'(by omega)).T) k)).1).Last))]) := (hkw119 49 rfl).trans rfl
                have uw119_50 : ρ118 50 = (.int .i64 ((allA (rem.take n) (floorA ((rem[0]'(by omega)).T) k)).2)) := (hkw119 50 rfl).trans rfl
                have uw119_9 : ρ118 9 = (.pointer (some ⟨g31, 0, none⟩)) := (hkw119 9 rfl).trans rfl
                have uw119_10 : ρ118 10 = (.int .i64 ((allA (rem.take n) (floorA ((rem[0]'(by omega)).T) k)).2)) := (hkw119 10 rfl).trans rfl
                have uw119_51 : ρ118 51 = (.int .i64 ((allA (rem.take n) (floorA ((rem[0]'(by omega)).T) k)).2)) := (hkw119 51 rfl).trans rfl
                have uw119_52 : ρ118 52 = (.bool (!decide (((allA (rem.take n) (floorA ((rem[0]'(by omega)).T) k)).2) = 0))) := (hkw119 52 rfl).trans rfl
                obtain ⟨v120, uw119_0⟩ : ∃ x, ρ118 0 = x := ⟨_, rfl⟩
                have hs121 : Sl w0 sampE v120 (rem.drop n) := uw119_0 ▸ hRw119 8 0 rfl
                refine then_n ?_
                refine cE_exit ?_
                refine scope_x (block_hit (then_n ?_))
                exact ⟨_, ⟨v120, (rem.drop n), v38, (out ++ ([((allA (rem.take n) (floorA ((rem[0]'(by omega)).T) k)).1)])), (f - 1), rfl, uw119_1, uw119_11, uw119_12, uw119_13, uw119_14, uw119_15, uw119_16, uw119_17, uw119_18, uw119_0, uw119_6, (hst.sub (.cons _ (.cons_cons _ .slnil))), (by assumption), (by first | exact hl | exact fun s h => hok s (List.mem_of_mem_drop h)), (by first | omega | (simp only [List.length_drop, List.length_append, List.length_cons, List.length_nil]; omega)), (by first | omega | (simp only [List.length_drop, List.length_append, List.length_cons, List.length_nil]; omega)), (by first | exact hI.trans (raw_go (by omega) hf hw (by assumption)) | (unfold rawA; rw [if_pos ⟨hri, hco⟩]))⟩, (by simp only [id, List.length_drop]; omega)⟩
            · have c122 : ¬ (((allA (rem.take n) (floorA ((rem[0]'(by omega)).T) k)).2) = 0) := of_decide_eq_false b34
              refine cE_cond true (congrArg Value.bool (congrArg (! ·) b34)) (fun _ => ?_) (fun h => by cases h)
              refine cE_seq ?_
              refine cE_region rfl ?_
              refine s_cons (op_move (.int .i64 ((allA (rem.take n) (floorA ((rem[0]'(by omega)).T) k)).2)) rfl ?_)
              refine s_cons (op_assign (.slice none 0 0) rfl ?_)
              refine s_cons (op_assign (.int .i64 ((allA (rem.take n) (floorA ((rem[0]'(by omega)).T) k)).2)) rfl ?_)
              refine s_nil ?_
              refine then_n ?_
              refine cE_ret ?_
              refine then_r (scope_r (block_r (then_r (block_r (then_r (scope_r ?_))))))
              refine post_r _ (res2 (v := (.slice none 0 0)) rfl (x := (.int .i64 ((allA (rem.take n) (floorA ((rem[0]'(by omega)).T) k)).2))) rfl) ?_
              replace hst : St w0 w33 [rowT 26 aggE (.slice none 0 0) ([]), .blk g31 26 #[(.int .i64 (((allA (rem.take n) (floorA ((rem[0]'(by omega)).T) k)).1).From)), (.int .i64 (((allA (rem.take n) (floorA ((rem[0]'(by omega)).T) k)).1).Count)), (.int .i64 (((allA (rem.take n) (floorA ((rem[0]'(by omega)).T) k)).1).Sum)), (.int .i64 (((allA (rem.take n) (floorA ((rem[0]'(by omega)).T) k)).1).Min)), (.int .i64 (((allA (rem.take n) (floorA ((rem[0]'(by omega)).T) k)).1).Max)), (.int .i64 (((allA (rem.take n) (floorA ((rem[0]'(by omega)).T) k)).1).First)), (.int .i64 (((allA (rem.take n) (floorA ((rem[0]'(by omega)).T) k)).1).Last))], rowT 26 aggE vo out] := hst.nilRow 26 aggE
              have e123 : [] = (rawA l k).1 := by first | exact (congrArg Prod.fst (raw_none (Or.inl (by assumption)))).symm | exact (congrArg Prod.snd (raw_none (Or.inl (by assumption)))).symm | exact (congrArg Prod.fst (raw_none (Or.inr (by assumption)))).symm | exact (congrArg Prod.snd (raw_none (Or.inr (by assumption)))).symm | exact (congrArg Prod.fst (hI.trans (raw_stop (by omega) hf hw (by assumption)))).symm | exact (congrArg Prod.snd (hI.trans (raw_stop (by omega) hf hw (by assumption)))).symm | exact (congrArg Prod.fst (hI.trans (raw_end (by omega)))).symm | exact (congrArg Prod.snd (hI.trans (raw_end (by omega)))).symm
              replace hst : St w0 w33 [rowT 26 aggE (.slice none 0 0) ((rawA l k).1), .blk g31 26 #[(.int .i64 (((allA (rem.take n) (floorA ((rem[0]'(by omega)).T) k)).1).From)), (.int .i64 (((allA (rem.take n) (floorA ((rem[0]'(by omega)).T) k)).1).Count)), (.int .i64 (((allA (rem.take n) (floorA ((rem[0]'(by omega)).T) k)).1).Sum)), (.int .i64 (((allA (rem.take n) (floorA ((rem[0]'(by omega)).T) k)).1).Min)), (.int .i64 (((allA (rem.take n) (floorA ((rem[0]'(by omega)).T) k)).1).Max)), (.int .i64 (((allA (rem.take n) (floorA ((rem[0]'(by omega)).T) k)).1).First)), (.int .i64 (((allA (rem.take n) (floorA ((rem[0]'(by omega)).T) k)).1).Last))], rowT 26 aggE vo out] := by rw [e123] at hst; exact hst
              exact ⟨(.slice none 0 0), (retv2 rfl (congrArg (Value.int .i64) (show (allA (rem.take n) (floorA ((rem[0]'(by omega)).T) k)).2 = (rawA l k).2 from by first | exact (congrArg Prod.fst (raw_none (Or.inl (by assumption)))).symm | exact (congrArg Prod.snd (raw_none (Or.inl (by assumption)))).symm | exact (congrArg Prod.fst (raw_none (Or.inr (by assumption)))).symm | exact (congrArg Prod.snd (raw_none (Or.inr (by assumption)))).symm | exact (congrArg Prod.fst (hI.trans (raw_stop (by omega) hf hw (by assumption)))).symm | exact (congrArg Prod.snd (hI.trans (raw_stop (by omega) hf hw (by assumption)))).symm | exact (congrArg Prod.fst (hI.trans (raw_end (by omega)))).symm | exact (congrArg Prod.snd (hI.trans (raw_end (by omega)))).symm))), hst.sub (.cons_cons _ (.cons _ (.cons _ .slnil)))⟩
        · have c124 : ¬ ((n : Int) < (rem.length : Int)) := of_decide_eq_false b19
          refine cE_cond false (congrArg Value.bool b19) (fun h => by cases h) (fun _ => ?_)
          refine cE_exit ?_
          refine then_x (then_x (block_hit (then_n ?_)))
          refine cE_seq ?_
          have hw : winLen k (floorA ((rem[0]'(by omega)).T) k) rem = n := hw0.trans (by first | rw [win_end (by omega), Nat.add_zero] | rw [win_no (by omega) (by assumption), Nat.add_zero])
          have hnp := win_pos (k := k) (l := rem) (by omega)
          rw [hw] at hnp
          refine cE_region rfl ?_
          refine s_cons (op_move v0 q15_0 ?_)
          refine s_cons (op_move (.int .i64 (n : Int)) q15_8 ?_)
          refine s_cons (op_slice_toN n (E := sampE) (xs := rem) Try.underlying22 Try.sizeOf32 rfl hr rfl (by omega) (by omega) (fun v125 hs126 => ?_))
          refine s_cons (op_move (.int .i64 (floorA ((rem[0]'(by omega)).T) k)) q15_7 ?_)
          refine s_cons (op_call Try.call15 (evs_cons (v := v125) rfl (evs_cons (v := (.int .i64 (floorA ((rem[0]'(by omega)).T) k))) rfl evs_nil)) (c_All (w0 := w18) (v_l := v125) (l := (rem.take n)) (h_l := (hs126.below hst.below)) (fr := (floorA ((rem[0]'(by omega)).T) k)) (hl := (fun s h => hok s (List.mem_of_mem_take h))) (fr0 := (by have := floorA_r ((rem[0]'(by omega)).T) k; omega)) (fr1 := (by have := floorA_r ((rem[0]'(by omega)).T) k; omega)) (hn := (by simp only [List.length_take]; omega))) ?_)
          rintro _ w127 ⟨rfl, hcall⟩
          refine ⟨_, rfl, ?_⟩
          have hst : St w0 w127 [rowT 26 aggE vo out] := hst.call hcall
          refine s_cons (op_move (.tuple #[(.agg #[(.int .i64 (((allA (rem.take n) (floorA ((rem[0]'(by omega)).T) k)).1).From)), (.int .i64 (((allA (rem.take n) (floorA ((rem[0]'(by omega)).T) k)).1).Count)), (.int .i64 (((allA (rem.take n) (floorA ((rem[0]'(by omega)).T) k)).1).Sum)), (.int .i64 (((allA (rem.take n) (floorA ((rem[0]'(by omega)).T) k)).1).Min)), (.int .i64 (((allA (rem.take n) (floorA ((rem[0]'(by omega)).T) k)).1).Max)), (.int .i64 (((allA (rem.take n) (floorA ((rem[0]'(by omega)).T) k)).1).First)), (.int .i64 (((allA (rem.take n) (floorA ((rem[0]'(by omega)).T) k)).1).Last))]), (.int .i64 ((allA (rem.take n) (floorA ((rem[0]'(by omega)).T) k)).2))]) rfl ?_)
          refine s_cons (op_extract (.agg #[(.int .i64 (((allA (rem.take n) (floorA ((rem[0]'(by omega)).T) k)).1).From)), (.int .i64 (((allA (rem.take n) (floorA ((rem[0]'(by omega)).T) k)).1).Count)), (.int .i64 (((allA (rem.take n) (floorA ((rem[0]'(by omega)).T) k)).1).Sum)), (.int .i64 (((allA (rem.take n) (floorA ((rem[0]'(by omega)).T) k)).1).Min)), (.int .i64 (((allA (rem.take n) (floorA ((rem[0]'(by omega)).T) k)).1).Max)), (.int .i64 (((allA (rem.take n) (floorA ((rem[0]'(by omega)).T) k)).1).First)), (.int .i64 (((allA (rem.take n) (floorA ((rem[0]'(by omega)).T) k)).1).Last))]) rfl rfl ?_)
          refine s_cons (op_extract (.int .i64 ((allA (rem.take n) (floorA ((rem[0]'(by omega)).T) k)).2)) rfl rfl ?_)
          refine s_cons (op_alloc (cs := #[(.int .i64 0), (.int .i64 0), (.int .i64 0), (.int .i64 0), (.int .i64 0), (.int .i64 0), (.int .i64 0)]) hst Try.zeroValue26 rfl (fun g128 w129 hst _ => ?_))
          replace hst : St w0 w129 [.blk g128 26 #[(.int .i64 0), (.int .i64 0), (.int .i64 0), (.int .i64 0), (.int .i64 0), (.int .i64 0), (.int .i64 0)], rowT 26 aggE vo out] := hst
          refine s_cons0 (op_storeAll hst 0 rfl Try.sizeOf26 rfl rfl rfl rfl (by simp [Value.oneCell']) (fun w130 hst => ?_))
          replace hst : St w0 w130 [.blk g128 26 #[(.int .i64 (((allA (rem.take n) (floorA ((rem[0]'(by omega)).T) k)).1).From)), (.int .i64 (((allA (rem.take n) (floorA ((rem[0]'(by omega)).T) k)).1).Count)), (.int .i64 (((allA (rem.take n) (floorA ((rem[0]'(by omega)).T) k)).1).Sum)), (.int .i64 (((allA (rem.take n) (floorA ((rem[0]'(by omega)).T) k)).1).Min)), (.int .i64 (((allA (rem.take n) (floorA ((rem[0]'(by omega)).T) k)).1).Max)), (.int .i64 (((allA (rem.take n) (floorA ((rem[0]'(by omega)).T) k)).1).First)), (.int .i64 (((allA (rem.take n) (floorA ((rem[0]'(by omega)).T) k)).1).Last))], rowT 26 aggE vo out] := hst
          refine s_cons (op_assign (.int .i64 ((allA (rem.take n) (floorA ((rem[0]'(by omega)).T) k)).2)) rfl ?_)
          refine s_nil ?_
          refine then_n ?_
          refine cE_seq ?_
          refine cE_seq ?_
          refine cE_region rfl ?_
          refine s_cons (op_move (.int .i64 ((allA (rem.take n) (floorA ((rem[0]'(by omega)).T) k)).2)) rfl ?_)
          refine s_cons (op_neq (k := .i64) (a := (allA (rem.take n) (floorA ((rem[0]'(by omega)).T) k)).2) (b := 0) rfl rfl ?_)
          refine s_nil ?_
          refine then_n ?_
          rcases Bool.eq_false_or_eq_true (decide (((allA (rem.take n) (floorA ((rem[0]'(by omega)).T) k)).2) = 0)) with b131 | b131
          · have c132 : ((allA (rem.take n) (floorA ((rem[0]'(by omega)).T) k)).2) = 0 := of_decide_eq_true b131
            refine cE_cond false (congrArg Value.bool (congrArg (! ·) b131)) (fun h => by cases h) (fun _ => ?_)
            refine cE_skip ?_
            refine then_n ?_
            refine cE_seq ?_
            have hM139 : stabML [3] [(kEq vo), (kEq (.agg #[(.int .i64 (((allA (rem.take n) (floorA ((rem[0]'(by omega)).T) k)).1).From)), (.int .i64 (((allA (rem.take n) (floorA ((rem[0]'(by omega)).T) k)).1).Count)), (.int .i64 (((allA (rem.take n) (floorA ((rem[0]'(by omega)).T) k)).1).Sum)), (.int .i64 (((allA (rem.take n) (floorA ((rem[0]'(by omega)).T) k)).1).Min)), (.int .i64 (((allA (rem.take n) (floorA ((rem[0]'(by omega)).T) k)).1).Max)), (.int .i64 (((allA (rem.take n) (floorA ((rem[0]'(by omega)).T) k)).1).First)), (.int .i64 (((allA (rem.take n) (floorA ((rem[0]'(by omega)).T) k)).1).Last))])), (kSlU [3] aggE ([((allA (rem.take n) (floorA ((rem[0]'(by omega)).T) k)).1)])), (kSt w0 (fun v135 => [.blk g128 26 #[(.int .i64 (((allA (rem.take n) (floorA ((rem[0]'(by omega)).T) k)).1).From)), (.int .i64 (((allA (rem.take n) (floorA ((rem[0]'(by omega)).T) k)).1).Count)), (.int .i64 (((allA (rem.take n) (floorA ((rem[0]'(by omega)).T) k)).1).Sum)), (.int .i64 (((allA (rem.take n) (floorA ((rem[0]'(by omega)).T) k)).1).Min)), (.int .i64 (((allA (rem.take n) (floorA ((rem[0]'(by omega)).T) k)).1).Max)), (.int .i64 (((allA (rem.take n) (floorA ((rem[0]'(by omega)).T) k)).1).First)), (.int .i64 (((allA (rem.take n) (floorA ((rem[0]'(by omega)).T) k)).1).Last))], rowT 26 aggE v135 (out ++ ([((allA (rem.take n) (floorA ((rem[0]'(by omega)).T) k)).1)]))])), (kEq v0), (kEq (.int .i64 (n : Int))), (kSl0 w0 sampE (rem.drop n)), (kSt w0 (fun v135 => [.blk g128 26 #[(.int .i64 (((allA (rem.take n) (floorA ((rem[0]'(by omega)).T) k)).1).From)), (.int .i64 (((allA (rem.take n) (floorA ((rem[0]'(by omega)).T) k)).1).Count)), (.int .i64 (((allA (rem.take n) (floorA ((rem[0]'(by omega)).T) k)).1).Sum)), (.int .i64 (((allA (rem.take n) (floorA ((rem[0]'(by omega)).T) k)).1).Min)), (.int .i64 (((allA (rem.take n) (floorA ((rem[0]'(by omega)).T) k)).1).Max)), (.int .i64 (((allA (rem.take n) (floorA ((rem[0]'(by omega)).T) k)).1).First)), (.int .i64 (((allA (rem.take n) (floorA ((rem[0]'(by omega)).T) k)).1).Last))], rowT 26 aggE v135 (out ++ ([((allA (rem.take n) (floorA ((rem[0]'(by omega)).T) k)).1)]))])), (kSl0 w0 sampE (rem.drop n))] := ⟨mEq, mEq, mSlU, mSt, mEq, mEq, mSl0, mSt, mSl0, trivial⟩
            refine cE_regionK (fun (D : Nat → Bool) (w : World) => St w0 w [.blk g128 26 #[(.int .i64 (((allA (rem.take n) (floorA ((rem[0]'(by omega)).T) k)).1).From)), (.int .i64 (((allA (rem.take n) (floorA ((rem[0]'(by omega)).T) k)).1).Count)), (.int .i64 (((allA (rem.take n) (floorA ((rem[0]'(by omega)).T) k)).1).Sum)), (.int .i64 (((allA (rem.take n) (floorA ((rem[0]'(by omega)).T) k)).1).Min)), (.int .i64 (((allA (rem.take n) (floorA ((rem[0]'(by omega)).T) k)).1).Max)), (.int .i64 (((allA (rem.take n) (floorA ((rem[0]'(by omega)).T) k)).1).First)), (.int .i64 (((allA (rem.take n) (floorA ((rem[0]'(by omega)).T) k)).1).Last))]] ∧ (D 3 = false → St w0 w [.blk g128 26 #[(.int .i64 (((allA (rem.take n) (floorA ((rem[0]'(by omega)).T) k)).1).From)), (.int .i64 (((allA (rem.take n) (floorA ((rem[0]'(by omega)).T) k)).1).Count)), (.int .i64 (((allA (rem.take n) (floorA ((rem[0]'(by omega)).T) k)).1).Sum)), (.int .i64 (((allA (rem.take n) (floorA ((rem[0]'(by omega)).T) k)).1).Min)), (.int .i64 (((allA (rem.take n) (floorA ((rem[0]'(by omega)).T) k)).1).Max)), (.int .i64 (((allA (rem.take n) (floorA ((rem[0]'(by omega)).T) k)).1).First)), (.int .i64 (((allA (rem.take n) (floorA ((rem[0]'(by omega)).T) k)).1).Last))], rowT 26 aggE vo out])) [[(6, none)], [(9, none)], [(55, some 1)], [(54, some 0), (56, some 2)], [(0, none)], [(8, none)], [(58, some 4), (59, some 5)], [(57, some 3)], [(60, some 6)]] (RofK [(kEq vo), (kEq (.agg #[(.int .i64 (((allA (rem.take n) (floorA ((rem[0]'(by omega)).T) k)).1).From)), (.int .i64 (((allA (rem.take n) (floorA ((rem[0]'(by omega)).T) k)).1).Count)), (.int .i64 (((allA (rem.take n) (floorA ((rem[0]'(by omega)).T) k)).1).Sum)), (.int .i64 (((allA (rem.take n) (floorA ((rem[0]'(by omega)).T) k)).1).Min)), (.int .i64 (((allA (rem.take n) (floorA ((rem[0]'(by omega)).T) k)).1).Max)), (.int .i64 (((allA (rem.take n) (floorA ((rem[0]'(by omega)).T) k)).1).First)), (.int .i64 (((allA (rem.take n) (floorA ((rem[0]'(by omega)).T) k)).1).Last))])), (kSlU [3] aggE ([((allA (rem.take n) (floorA ((rem[0]'(by omega)).T) k)).1)])), (kSt w0 (fun v135 => [.blk g128 26 #[(.int .i64 (((allA (rem.take n) (floorA ((rem[0]'(by omega)).T) k)).1).From)), (.int .i64 (((allA (rem.take n) (floorA ((rem[0]'(by omega)).T) k)).1).Count)), (.int .i64 (((allA (rem.take n) (floorA ((rem[0]'(by omega)).T) k)).1).Sum)), (.int .i64 (((allA (rem.take n) (floorA ((rem[0]'(by omega)).T) k)).1).Min)), (.int .i64 (((allA (rem.take n) (floorA ((rem[0]'(by omega)).T) k)).1).Max)), (.int .i64 (((allA (rem.take n) (floorA ((rem[0]'(by omega)).T) k)).1).First)), (.int .i64 (((allA (rem.take n) (floorA ((rem[0]'(by omega)).T) k)).1).Last))], rowT 26 aggE v135 (out ++ ([((allA (rem.take n) (floorA ((rem[0]'(by omega)).T) k)).1)]))])), (kEq v0), (kEq (.int .i64 (n : Int))), (kSl0 w0 sampE (rem.drop n)), (kSt w0 (fun v135 => [.blk g128 26 #[(.int .i64 (((allA (rem.take n) (floorA ((rem[0]'(by omega)).T) k)).1).From)), (.int .i64 (((allA (rem.take n) (floorA ((rem[0]'(by omega)).T) k)).1).Count)), (.int .i64 (((allA (rem.take n) (floorA ((rem[0]'(by omega)).T) k)).1).Sum)), (.int .i64 (((allA (rem.take n) (floorA ((rem[0]'(by omega)).T) k)).1).Min)), (.int .i64 (((allA (rem.take n) (floorA ((rem[0]'(by omega)).T) k)).1).Max)), (.int .i64 (((allA (rem.take n) (floorA ((rem[0]'(by omega)).T) k)).1).First)), (.int .i64 (((allA (rem.take n) (floorA ((rem[0]'(by omega)).T) k)).1).Last))], rowT 26 aggE v135 (out ++ ([((allA (rem.take n) (floorA ((rem[0]'(by omega)).T) k)).1)]))])), (kSl0 w0 sampE (rem.drop n))]) (by kernel_rfl) rfl (by kernel_rfl) ⟨hst.drewW.sub (.cons_cons _ (.cons _ .slnil)), (fun _ => hst.drewW)⟩ ⟨?_, ?_, ?_, ?_, ?_, ?_, ?_, ?_, ?_, trivial⟩ ?_
            · rintro D140 ρ141 w142 hD143 hE144 hC145 hJ146 - ⟨f6, _⟩
              have hst := hJ146.2 (not_yet hD143 (fun hm => (hC145 3 0 hm (by kernel_rfl))))
              exact go_plain (op_move vo (f6.trans q15_6) (kN0 (i := 0) hM139 (by decide) (by exact hJ146) (by exact rfl)))
            · rintro D147 ρ148 w149 hD150 hE151 hC152 hJ153 - ⟨f9, _⟩
              have hst := hJ153.2 (not_yet hD150 (fun hm => (hC152 2 1 (hC152 3 2 hm (by kernel_rfl)) (by kernel_rfl))))
              exact go_plain (op_loadN (cs := [(.int .i64 (((allA (rem.take n) (floorA ((rem[0]'(by omega)).T) k)).1).From)), (.int .i64 (((allA (rem.take n) (floorA ((rem[0]'(by omega)).T) k)).1).Count)), (.int .i64 (((allA (rem.take n) (floorA ((rem[0]'(by omega)).T) k)).1).Sum)), (.int .i64 (((allA (rem.take n) (floorA ((rem[0]'(by omega)).T) k)).1).Min)), (.int .i64 (((allA (rem.take n) (floorA ((rem[0]'(by omega)).T) k)).1).Max)), (.int .i64 (((allA (rem.take n) (floorA ((rem[0]'(by omega)).T) k)).1).First)), (.int .i64 (((allA (rem.take n) (floorA ((rem[0]'(by omega)).T) k)).1).Last))]) Try.isAgg26 Try.sizeOf26 (f9.trans rfl) (Pt.of (hst.cell 0 rfl) rfl) rfl (kN0 (i := 1) hM139 (by decide) (by exact hJ153) (by exact rfl)))
            · rintro D154 ρ155 w156 hD157 hE158 hC159 hJ160 - ⟨f55, _⟩
              have hst := hJ160.2 (not_yet hD157 (fun hm => (hC159 3 2 hm (by kernel_rfl))))
              have hst := St.start w156
              refine go_plain (op_buildSlice (E := aggE) [((allA (rem.take n) (floorA ((rem[0]'(by omega)).T) k)).1)] hst Try.underlying41 Try.sizeOf26 Try.zeroValue26 (evp_cons (v := (.agg #[(.int .i64 (((allA (rem.take n) (floorA ((rem[0]'(by omega)).T) k)).1).From)), (.int .i64 (((allA (rem.take n) (floorA ((rem[0]'(by omega)).T) k)).1).Count)), (.int .i64 (((allA (rem.take n) (floorA ((rem[0]'(by omega)).T) k)).1).Sum)), (.int .i64 (((allA (rem.take n) (floorA ((rem[0]'(by omega)).T) k)).1).Min)), (.int .i64 (((allA (rem.take n) (floorA ((rem[0]'(by omega)).T) k)).1).Max)), (.int .i64 (((allA (rem.take n) (floorA ((rem[0]'(by omega)).T) k)).1).First)), (.int .i64 (((allA (rem.take n) (floorA ((rem[0]'(by omega)).T) k)).1).Last))])) f55 evp_nil) (parts_cons rfl parts_nil) rfl (by decide) (fun v161 w162 hst => ?_))
              exact kN (i := 2) hM139 (by decide) hst.below (by exact ⟨hJ160.1.ext hst.below, (fun x0 => (hJ160.2 x0).ext hst.below)⟩) (by exact fun _ => hst.sl 0 rfl)
            · rintro D163 ρ164 w165 hD166 hE167 hC168 hJ169 - ⟨f54, f56, _⟩
              have hst := hJ169.2 hD166
              have hs170 := f56 (by intro m hm; obtain rfl := List.mem_singleton.1 hm; exact hD166)
              have hI173 : stabIL 3 D163 0 [(kEq vo), (kEq (.agg #[(.int .i64 (((allA (rem.take n) (floorA ((rem[0]'(by omega)).T) k)).1).From)), (.int .i64 (((allA (rem.take n) (floorA ((rem[0]'(by omega)).T) k)).1).Count)), (.int .i64 (((allA (rem.take n) (floorA ((rem[0]'(by omega)).T) k)).1).Sum)), (.int .i64 (((allA (rem.take n) (floorA ((rem[0]'(by omega)).T) k)).1).Min)), (.int .i64 (((allA (rem.take n) (floorA ((rem[0]'(by omega)).T) k)).1).Max)), (.int .i64 (((allA (rem.take n) (floorA ((rem[0]'(by omega)).T) k)).1).First)), (.int .i64 (((allA (rem.take n) (floorA ((rem[0]'(by omega)).T) k)).1).Last))])), (kSlU [3] aggE ([((allA (rem.take n) (floorA ((rem[0]'(by omega)).T) k)).1)])), (kSt w0 (fun v135 => [.blk g128 26 #[(.int .i64 (((allA (rem.take n) (floorA ((rem[0]'(by omega)).T) k)).1).From)), (.int .i64 (((allA (rem.take n) (floorA ((rem[0]'(by omega)).T) k)).1).Count)), (.int .i64 (((allA (rem.take n) (floorA ((rem[0]'(by omega)).T) k)).1).Sum)), (.int .i64 (((allA (rem.take n) (floorA ((rem[0]'(by omega)).T) k)).1).Min)), (.int .i64 (((allA (rem.take n) (floorA ((rem[0]'(by omega)).T) k)).1).Max)), (.int .i64 (((allA (rem.take n) (floorA ((rem[0]'(by omega)).T) k)).1).First)), (.int .i64 (((allA (rem.take n) (floorA ((rem[0]'(by omega)).T) k)).1).Last))], rowT 26 aggE v135 (out ++ ([((allA (rem.take n) (floorA ((rem[0]'(by omega)).T) k)).1)]))])), (kEq v0), (kEq (.int .i64 (n : Int))), (kSl0 w0 sampE (rem.drop n)), (kSt w0 (fun v135 => [.blk g128 26 #[(.int .i64 (((allA (rem.take n) (floorA ((rem[0]'(by omega)).T) k)).1).From)), (.int .i64 (((allA (rem.take n) (floorA ((rem[0]'(by omega)).T) k)).1).Count)), (.int .i64 (((allA (rem.take n) (floorA ((rem[0]'(by omega)).T) k)).1).Sum)), (.int .i64 (((allA (rem.take n) (floorA ((rem[0]'(by omega)).T) k)).1).Min)), (.int .i64 (((allA (rem.take n) (floorA ((rem[0]'(by omega)).T) k)).1).Max)), (.int .i64 (((allA (rem.take n) (floorA ((rem[0]'(by omega)).T) k)).1).First)), (.int .i64 (((allA (rem.take n) (floorA ((rem[0]'(by omega)).T) k)).1).Last))], rowT 26 aggE v135 (out ++ ([((allA (rem.take n) (floorA ((rem[0]'(by omega)).T) k)).1)]))])), (kSl0 w0 sampE (rem.drop n))] := ⟨Or.inr (Or.inr iEq), Or.inr (Or.inr iEq), Or.inr (Or.inr (iSlU (by decide))), Or.inl rfl, Or.inr (Or.inr iEq), Or.inr (Or.inr iEq), Or.inr (Or.inr iSl0), Or.inr (Or.inl (not_yet hD166 (fun hm => (hC168 7 3 hm (by kernel_rfl))))), Or.inr (Or.inr iSl0), trivial⟩
              refine go_plain (op_append (E := aggE) (xs := out) (ys := [((allA (rem.take n) (floorA ((rem[0]'(by omega)).T) k)).1)]) (z := (.agg #[(.int .i64 0), (.int .i64 0), (.int .i64 0), (.int .i64 0), (.int .i64 0), (.int .i64 0), (.int .i64 0)])) (bytes := 56) hst 1 rfl Try.underlying41 (by kernel_rfl) rfl f54 rfl hs170 (by first | omega | (simp; omega)) (by first | omega | (simp; omega)) (fun v171 w172 hst => ?_))
              replace hst : St w0 w172 [.blk g128 26 #[(.int .i64 (((allA (rem.take n) (floorA ((rem[0]'(by omega)).T) k)).1).From)), (.int .i64 (((allA (rem.take n) (floorA ((rem[0]'(by omega)).T) k)).1).Count)), (.int .i64 (((allA (rem.take n) (floorA ((rem[0]'(by omega)).T) k)).1).Sum)), (.int .i64 (((allA (rem.take n) (floorA ((rem[0]'(by omega)).T) k)).1).Min)), (.int .i64 (((allA (rem.take n) (floorA ((rem[0]'(by omega)).T) k)).1).Max)), (.int .i64 (((allA (rem.take n) (floorA ((rem[0]'(by omega)).T) k)).1).First)), (.int .i64 (((allA (rem.take n) (floorA ((rem[0]'(by omega)).T) k)).1).Last))], rowT 26 aggE v171 (out ++ ([((allA (rem.take n) (floorA ((rem[0]'(by omega)).T) k)).1)]))] := hst
              exact kI (i := 3) hI173 (by exact ⟨hst.sub (.cons_cons _ (.cons _ .slnil)), (fun h => absurd h (fun h => Bool.noConfusion h))⟩) (by exact hst)
            · rintro D174 ρ175 w176 hD177 hE178 hC179 hJ180 - ⟨f0, _⟩
              have hst := hJ180.1
              exact go_plain (op_move v0 (f0.trans q15_0) (kN0 (i := 4) hM139 (by decide) (by exact hJ180) (by exact rfl)))
            · rintro D181 ρ182 w183 hD184 hE185 hC186 hJ187 - ⟨f8, _⟩
              have hst := hJ187.1
              exact go_plain (op_move (.int .i64 (n : Int)) (f8.trans q15_8) (kN0 (i := 5) hM139 (by decide) (by exact hJ187) (by exact rfl)))
            · rintro D188 ρ189 w190 hD191 hE192 hC193 hJ194 - ⟨f58, f59, _⟩
              have hst := hJ194.1
              refine go_plain (op_slice_fromN n (E := sampE) (xs := rem) Try.underlying22 Try.sizeOf32 f58 hr f59 (by omega) (by omega) (fun v195 hs196 => ?_))
              exact (kN0 (i := 6) hM139 (by decide) (by exact hJ194) (by exact hs196))
            · rintro D197 ρ198 w199 hD200 hE201 hC202 hJ203 - ⟨f57, _⟩
              have hst := hJ203.1
              obtain ⟨v204, e205⟩ : ∃ x, ρ198 57 = x := ⟨_, rfl⟩
              have hn206 := f57
              rw [e205] at hn206
              exact go_plain (op_assign v204 e205 (kN0 (i := 7) hM139 (by decide) (by exact hJ203) (by exact hn206)))
            · rintro D207 ρ208 w209 hD210 hE211 hC212 hJ213 - ⟨f60, _⟩
              have hst := hJ213.1
              have hs214 := f60
              exact go_plain (op_assign _ rfl (kN0 (i := 8) hM139 (by decide) (by exact hJ213) (by exact hs214)))
            · intro ρ215 w216 Dw216 hallw216 hJw216 hRw216 hkw216
              obtain ⟨v135, uw216_6⟩ : ∃ x, ρ215 6 = x := ⟨_, rfl⟩
              have hst : St w0 w216 [.blk g128 26 #[(.int .i64 (((allA (rem.take n) (floorA ((rem[0]'(by omega)).T) k)).1).From)), (.int .i64 (((allA (rem.take n) (floorA ((rem[0]'(by omega)).T) k)).1).Count)), (.int .i64 (((allA (rem.take n) (floorA ((rem[0]'(by omega)).T) k)).1).Sum)), (.int .i64 (((allA (rem.take n) (floorA ((rem[0]'(by omega)).T) k)).1).Min)), (.int .i64 (((allA (rem.take n) (floorA ((rem[0]'(by omega)).T) k)).1).Max)), (.int .i64 (((allA (rem.take n) (floorA ((rem[0]'(by omega)).T) k)).1).First)), (.int .i64 (((allA (rem.take n) (floorA ((rem[0]'(by omega)).T) k)).1).Last))], rowT 26 aggE v135 (out ++ ([((allA (rem.take n) (floorA ((rem[0]'(by omega)).T) k)).1)]))] := by have h := hRw216 7 6 rfl; rw [uw216_6] at h; exact h
              have uw216_1 : ρ215 1 = (.int .i64 k) := (hkw216 1 rfl).trans q15_1
              have uw216_11 : ρ215 11 = v_l := (hkw216 11 rfl).trans q15_11
              have uw216_12 : ρ215 12 = (.bool (risingA l)) := (hkw216 12 rfl).trans q15_12
              have uw216_13 : ρ215 13 = (.bool (!(risingA l))) := (hkw216 13 rfl).trans q15_13
              have uw216_14 : ρ215 14 = (.bool (!(risingA l))) := (hkw216 14 rfl).trans q15_14
              have uw216_15 : ρ215 15 = (.int .i64 k) := (hkw216 15 rfl).trans q15_15
              have uw216_16 : ρ215 16 = (.bool (coarseA k)) := (hkw216 16 rfl).trans q15_16
              have uw216_17 : ρ215 17 = (.bool (!(coarseA k))) := (hkw216 17 rfl).trans q15_17
              have uw216_18 : ρ215 18 = (.bool (!(coarseA k))) := (hkw216 18 rfl).trans q15_18
              have uw216_19 : ρ215 19 = v0 := (hkw216 19 rfl).trans q15_19
              have uw216_20 : ρ215 20 = (.int .i64 (rem.length : Int)) := (hkw216 20 rfl).trans q15_20
              have uw216_21 : ρ215 21 = (.bool (decide (0 < (rem.length : Int)))) := (hkw216 21 rfl).trans q15_21
              have uw216_22 : ρ215 22 = v0 := (hkw216 22 rfl).trans q15_22
              have uw216_23 : ρ215 23 = (.pointer (some ⟨a11, o12, none⟩)) := (hkw216 23 rfl).trans q15_23
              have uw216_24 : ρ215 24 = (.pointer (some ⟨a11, (o12 + 0), none⟩)) := (hkw216 24 rfl).trans q15_24
              have uw216_25 : ρ215 25 = (.int .i64 ((rem[0]'(by omega)).T)) := (hkw216 25 rfl).trans q15_25
              have uw216_26 : ρ215 26 = (.int .i64 k) := (hkw216 26 rfl).trans q15_26
              have uw216_27 : ρ215 27 = (.int .i64 (floorA ((rem[0]'(by omega)).T) k)) := (hkw216 27 rfl).trans q15_27
              have uw216_7 : ρ215 7 = (.int .i64 (floorA ((rem[0]'(by omega)).T) k)) := (hkw216 7 rfl).trans q15_7
              have uw216_8 : ρ215 8 = (.int .i64 (n : Int)) := (hkw216 8 rfl).trans q15_8
              have uw216_28 : ρ215 28 = (.int .i64 (n : Int)) := (hkw216 28 rfl).trans rfl
              have uw216_29 : ρ215 29 = v0 := (hkw216 29 rfl).trans rfl
              have uw216_30 : ρ215 30 = (.int .i64 (rem.length : Int)) := (hkw216 30 rfl).trans rfl
              have uw216_31 : ρ215 31 = (.bool (decide ((n : Int) < (rem.length : Int)))) := (hkw216 31 rfl).trans rfl
              have uw216_44 : ρ215 44 = v0 := (hkw216 44 rfl).trans rfl
              have uw216_45 : ρ215 45 = (.int .i64 (n : Int)) := (hkw216 45 rfl).trans rfl
              have uw216_46 : ρ215 46 = v125 := (hkw216 46 rfl).trans rfl
              have uw216_47 : ρ215 47 = (.int .i64 (floorA ((rem[0]'(by omega)).T) k)) := (hkw216 47 rfl).trans rfl
              have uw216_48 : ρ215 48 = (.tuple #[(.agg #[(.int .i64 (((allA (rem.take n) (floorA ((rem[0]'(by omega)).T) k)).1).From)), (.int .i64 (((allA (rem.take n) (floorA ((rem[0]'(by omega)).T) k)).1).Count)), (.int .i64 (((allA (rem.take n) (floorA ((rem[0]'(by omega)).T) k)).1).Sum)), (.int .i64 (((allA (rem.take n) (floorA ((rem[0]'(by omega)).T) k)).1).Min)), (.int .i64 (((allA (rem.take n) (floorA ((rem[0]'(by omega)).T) k)).1).Max)), (.int .i64 (((allA (rem.take n) (floorA ((rem[0]'(by omega)).T) k)).1).First)), (.int .i64 (((allA (rem.take n) (floorA ((rem[0]'(by omega)).T) k)).1).Last))]), (.int .i64 ((allA (rem.take n) (floorA ((rem[0]'(by omega)).T) k)).2))]) := (hkw216 48 rfl).trans rfl
              have uw216_43 : ρ215 43 = (.tuple #[(.agg #[(.int .i64 (((allA (rem.take n) (floorA ((rem[0]'(by omega)).T) k)).1).From)), (.int .i64 (((allA (rem.take n) (floorA ((rem[0]'(by omega)).T) k)).1).Count)), (.int .i64 (((allA (rem.take n) (floorA ((rem[0]'(by omega)).T) k)).1).Sum)), (.int .i64 (((allA (rem.take n) (floorA ((rem[0]'(by omega)).T) k)).1).Min)), (.int .i64 (((allA (rem.take n) (floorA ((rem[0]'(by omega)).T) k)).1).Max)), (.int .i64 (((allA (rem.take n) (floorA ((rem[0]'(by omega)).T) k)).1).First)), (.int .i64 (((allA (rem.take n) (floorA ((rem[0]'(by omega)).T) k)).1).Last))]), (.int .i64 ((allA (rem.take n) (floorA ((rem[0]'(by omega)).T) k)).2))]) := (hkw216 43 rfl).trans rfl
              have uw216_49 : ρ215 49 = (.agg #[(.int .i64 (((allA (rem.take n) (floorA ((rem[0]'(by omega)).T) k)).1).From)), (.int .i64 (((allA (rem.take n) (floorA ((rem[0]'(by omega)).T) k)).1).Count)), (.int .i64 (((allA (rem.take n) (floorA ((rem[0]'(by omega)).T) k)).1).Sum)), (.int .i64 (((allA (rem.take n) (floorA ((rem[0]'(by omega)).T) k)).1).Min)), (.int .i64 (((allA (rem.take n) (floorA ((rem[0]'(by omega)).T) k)).1).Max)), (.int .i64 (((allA (rem.take n) (floorA ((rem[0]'(by omega)).T) k)).1).First)), (.int .i64 (((allA (rem.take n) (floorA ((rem[0]'(by omega)).T) k)).1).Last))]) := (hkw216 49 rfl).trans rfl
              have uw216_50 : ρ215 50 = (.int .i64 ((allA (rem.take n) (floorA ((rem[0]'(by omega)).T) k)).2)) := (hkw216 50 rfl).trans rfl
              have uw216_9 : ρ215 9 = (.pointer (some ⟨g128, 0, none⟩)) := (hkw216 9 rfl).trans rfl
              have uw216_10 : ρ215 10 = (.int .i64 ((allA (rem.take n) (floorA ((rem[0]'(by omega)).T) k)).2)) := (hkw216 10 rfl).trans rfl
              have uw216_51 : ρ215 51 = (.int .i64 ((allA (rem.take n) (floorA ((rem[0]'(by omega)).T) k)).2)) := (hkw216 51 rfl).trans rfl
              have uw216_52 : ρ215 52 = (.bool (!decide (((allA (rem.take n) (floorA ((rem[0]'(by omega)).T) k)).2) = 0))) := (hkw216 52 rfl).trans rfl
              obtain ⟨v217, uw216_0⟩ : ∃ x, ρ215 0 = x := ⟨_, rfl⟩
              have hs218 : Sl w0 sampE v217 (rem.drop n) := uw216_0 ▸ hRw216 8 0 rfl
              refine then_n ?_
              refine cE_exit ?_
              refine scope_x (block_hit (then_n ?_))
              exact ⟨_, ⟨v217, (rem.drop n), v135, (out ++ ([((allA (rem.take n) (floorA ((rem[0]'(by omega)).T) k)).1)])), (f - 1), rfl, uw216_1, uw216_11, uw216_12, uw216_13, uw216_14, uw216_15, uw216_16, uw216_17, uw216_18, uw216_0, uw216_6, (hst.sub (.cons _ (.cons_cons _ .slnil))), (by assumption), (by first | exact hl | exact fun s h => hok s (List.mem_of_mem_drop h)), (by first | omega | (simp only [List.length_drop, List.length_append, List.length_cons, List.length_nil]; omega)), (by first | omega | (simp only [List.length_drop, List.length_append, List.length_cons, List.length_nil]; omega)), (by first | exact hI.trans (raw_go (by omega) hf hw (by assumption)) | (unfold rawA; rw [if_pos ⟨hri, hco⟩]))⟩, (by simp only [id, List.length_drop]; omega)⟩
          · have c219 : ¬ (((allA (rem.take n) (floorA ((rem[0]'(by omega)).T) k)).2) = 0) := of_decide_eq_false b131
            refine cE_cond true (congrArg Value.bool (congrArg (! ·) b131)) (fun _ => ?_) (fun h => by cases h)
            refine cE_seq ?_
            refine cE_region rfl ?_
            refine s_cons (op_move (.int .i64 ((allA (rem.take n) (floorA ((rem[0]'(by omega)).T) k)).2)) rfl ?_)
            refine s_cons (op_assign (.slice none 0 0) rfl ?_)
            refine s_cons (op_assign (.int .i64 ((allA (rem.take n) (floorA ((rem[0]'(by omega)).T) k)).2)) rfl ?_)
            refine s_nil ?_
            refine then_n ?_
            refine cE_ret ?_
            refine then_r (scope_r (block_r (then_r (block_r (then_r (scope_r ?_))))))
            refine post_r _ (res2 (v := (.slice none 0 0)) rfl (x := (.int .i64 ((allA (rem.take n) (floorA ((rem[0]'(by omega)).T) k)).2))) rfl) ?_
            replace hst : St w0 w130 [rowT 26 aggE (.slice none 0 0) ([]), .blk g128 26 #[(.int .i64 (((allA (rem.take n) (floorA ((rem[0]'(by omega)).T) k)).1).From)), (.int .i64 (((allA (rem.take n) (floorA ((rem[0]'(by omega)).T) k)).1).Count)), (.int .i64 (((allA (rem.take n) (floorA ((rem[0]'(by omega)).T) k)).1).Sum)), (.int .i64 (((allA (rem.take n) (floorA ((rem[0]'(by omega)).T) k)).1).Min)), (.int .i64 (((allA (rem.take n) (floorA ((rem[0]'(by omega)).T) k)).1).Max)), (.int .i64 (((allA (rem.take n) (floorA ((rem[0]'(by omega)).T) k)).1).First)), (.int .i64 (((allA (rem.take n) (floorA ((rem[0]'(by omega)).T) k)).1).Last))], rowT 26 aggE vo out] := hst.nilRow 26 aggE
            have e220 : [] = (rawA l k).1 := by first | exact (congrArg Prod.fst (raw_none (Or.inl (by assumption)))).symm | exact (congrArg Prod.snd (raw_none (Or.inl (by assumption)))).symm | exact (congrArg Prod.fst (raw_none (Or.inr (by assumption)))).symm | exact (congrArg Prod.snd (raw_none (Or.inr (by assumption)))).symm | exact (congrArg Prod.fst (hI.trans (raw_stop (by omega) hf hw (by assumption)))).symm | exact (congrArg Prod.snd (hI.trans (raw_stop (by omega) hf hw (by assumption)))).symm | exact (congrArg Prod.fst (hI.trans (raw_end (by omega)))).symm | exact (congrArg Prod.snd (hI.trans (raw_end (by omega)))).symm
            replace hst : St w0 w130 [rowT 26 aggE (.slice none 0 0) ((rawA l k).1), .blk g128 26 #[(.int .i64 (((allA (rem.take n) (floorA ((rem[0]'(by omega)).T) k)).1).From)), (.int .i64 (((allA (rem.take n) (floorA ((rem[0]'(by omega)).T) k)).1).Count)), (.int .i64 (((allA (rem.take n) (floorA ((rem[0]'(by omega)).T) k)).1).Sum)), (.int .i64 (((allA (rem.take n) (floorA ((rem[0]'(by omega)).T) k)).1).Min)), (.int .i64 (((allA (rem.take n) (floorA ((rem[0]'(by omega)).T) k)).1).Max)), (.int .i64 (((allA (rem.take n) (floorA ((rem[0]'(by omega)).T) k)).1).First)), (.int .i64 (((allA (rem.take n) (floorA ((rem[0]'(by omega)).T) k)).1).Last))], rowT 26 aggE vo out] := by rw [e220] at hst; exact hst
            exact ⟨(.slice none 0 0), (retv2 rfl (congrArg (Value.int .i64) (show (allA (rem.take n) (floorA ((rem[0]'(by omega)).T) k)).2 = (rawA l k).2 from by first | exact (congrArg Prod.fst (raw_none (Or.inl (by assumption)))).symm | exact (congrArg Prod.snd (raw_none (Or.inl (by assumption)))).symm | exact (congrArg Prod.fst (raw_none (Or.inr (by assumption)))).symm | exact (congrArg Prod.snd (raw_none (Or.inr (by assumption)))).symm | exact (congrArg Prod.fst (hI.trans (raw_stop (by omega) hf hw (by assumption)))).symm | exact (congrArg Prod.snd (hI.trans (raw_stop (by omega) hf hw (by assumption)))).symm | exact (congrArg Prod.fst (hI.trans (raw_end (by omega)))).symm | exact (congrArg Prod.snd (hI.trans (raw_end (by omega)))).symm))), hst.sub (.cons_cons _ (.cons _ (.cons _ .slnil)))⟩
      · have c221 : ¬ (0 < (rem.length : Int)) := of_decide_eq_false b9
        refine cE_cond false (congrArg Value.bool b9) (fun h => by cases h) (fun _ => ?_)
        refine cE_exit ?_
        refine then_x (then_x (block_hit (then_n ?_)))
        refine cE_seq ?_
        refine cE_region rfl ?_
        refine s_cons (op_move vo q5_6 ?_)
        refine s_cons (op_assign vo rfl ?_)
        refine s_cons (op_assign (.int .i64 0) rfl ?_)
        refine s_nil ?_
        refine then_n ?_
        refine cE_ret ?_
        refine scope_r ?_
        refine post_r _ (res2 (v := vo) rfl (x := (.int .i64 0)) rfl) ?_
        have e222 : out = (rawA l k).1 := by first | exact (congrArg Prod.fst (raw_none (Or.inl (by assumption)))).symm | exact (congrArg Prod.snd (raw_none (Or.inl (by assumption)))).symm | exact (congrArg Prod.fst (raw_none (Or.inr (by assumption)))).symm | exact (congrArg Prod.snd (raw_none (Or.inr (by assumption)))).symm | exact (congrArg Prod.fst (hI.trans (raw_stop (by omega) hf hw (by assumption)))).symm | exact (congrArg Prod.snd (hI.trans (raw_stop (by omega) hf hw (by assumption)))).symm | exact (congrArg Prod.fst (hI.trans (raw_end (by omega)))).symm | exact (congrArg Prod.snd (hI.trans (raw_end (by omega)))).symm
        replace hst : St w0 w8 [rowT 26 aggE vo ((rawA l k).1)] := by rw [e222] at hst; exact hst
        exact ⟨vo, (retv2 rfl (congrArg (Value.int .i64) (show 0 = (rawA l k).2 from by first | exact (congrArg Prod.fst (raw_none (Or.inl (by assumption)))).symm | exact (congrArg Prod.snd (raw_none (Or.inl (by assumption)))).symm | exact (congrArg Prod.fst (raw_none (Or.inr (by assumption)))).symm | exact (congrArg Prod.snd (raw_none (Or.inr (by assumption)))).symm | exact (congrArg Prod.fst (hI.trans (raw_stop (by omega) hf hw (by assumption)))).symm | exact (congrArg Prod.snd (hI.trans (raw_stop (by omega) hf hw (by assumption)))).symm | exact (congrArg Prod.fst (hI.trans (raw_end (by omega)))).symm | exact (congrArg Prod.snd (hI.trans (raw_end (by omega)))).symm))), hst.sub (.cons_cons _ .slnil)⟩
    · refine cE_cond true (congrArg Value.bool (congrArg (! ·) b4)) (fun _ => ?_) (fun h => by cases h)
      refine cE_seq ?_
      refine cE_region rfl ?_
      refine s_cons (op_assign (.slice none 0 0) rfl ?_)
      refine s_cons (op_assign (.int .i64 1) rfl ?_)
      refine s_nil ?_
      refine then_n ?_
      refine cE_ret ?_
      refine then_r (scope_r ?_)
      refine post_r _ (res2 (v := (.slice none 0 0)) rfl (x := (.int .i64 1)) rfl) ?_
      replace hst : St w0 w3 [rowT 26 aggE (.slice none 0 0) ([])] := hst.nilRow 26 aggE
      have e223 : [] = (rawA l k).1 := by first | exact (congrArg Prod.fst (raw_none (Or.inl (by assumption)))).symm | exact (congrArg Prod.snd (raw_none (Or.inl (by assumption)))).symm | exact (congrArg Prod.fst (raw_none (Or.inr (by assumption)))).symm | exact (congrArg Prod.snd (raw_none (Or.inr (by assumption)))).symm | exact (congrArg Prod.fst (hI.trans (raw_stop (by omega) hf hw (by assumption)))).symm | exact (congrArg Prod.snd (hI.trans (raw_stop (by omega) hf hw (by assumption)))).symm | exact (congrArg Prod.fst (hI.trans (raw_end (by omega)))).symm | exact (congrArg Prod.snd (hI.trans (raw_end (by omega)))).symm
      replace hst : St w0 w3 [rowT 26 aggE (.slice none 0 0) ((rawA l k).1)] := by rw [e223] at hst; exact hst
      exact ⟨(.slice none 0 0), (retv2 rfl (congrArg (Value.int .i64) (show 1 = (rawA l k).2 from by first | exact (congrArg Prod.fst (raw_none (Or.inl (by assumption)))).symm | exact (congrArg Prod.snd (raw_none (Or.inl (by assumption)))).symm | exact (congrArg Prod.fst (raw_none (Or.inr (by assumption)))).symm | exact (congrArg Prod.snd (raw_none (Or.inr (by assumption)))).symm | exact (congrArg Prod.fst (hI.trans (raw_stop (by omega) hf hw (by assumption)))).symm | exact (congrArg Prod.snd (hI.trans (raw_stop (by omega) hf hw (by assumption)))).symm | exact (congrArg Prod.fst (hI.trans (raw_end (by omega)))).symm | exact (congrArg Prod.snd (hI.trans (raw_end (by omega)))).symm))), hst.sub (.cons_cons _ .slnil)⟩
  · refine s_no 14 rfl (congrArg Value.bool (congrArg (! ·) b2)) ?_
    refine s_no 14 rfl (congrArg Value.bool (congrArg (! ·) b2)) ?_
    refine s_no 14 rfl (congrArg Value.bool (congrArg (! ·) b2)) ?_
    refine s_cons (op_pick_t (.bool true) (congrArg Value.bool (congrArg (! ·) b2)) rfl ?_)
    refine s_nil ?_
    refine then_n ?_
    refine cE_cond true rfl (fun _ => ?_) (fun h => by cases h)
    refine cE_seq ?_
    refine cE_region rfl ?_
    refine s_cons (op_assign (.slice none 0 0) rfl ?_)
    refine s_cons (op_assign (.int .i64 1) rfl ?_)
    refine s_nil ?_
    refine then_n ?_
    refine cE_ret ?_
    refine then_r (scope_r ?_)
    refine post_r _ (res2 (v := (.slice none 0 0)) rfl (x := (.int .i64 1)) rfl) ?_
    replace hst : St w0 w1 [rowT 26 aggE (.slice none 0 0) ([])] := hst.nilRow 26 aggE
    have e224 : [] = (rawA l k).1 := by first | exact (congrArg Prod.fst (raw_none (Or.inl (by assumption)))).symm | exact (congrArg Prod.snd (raw_none (Or.inl (by assumption)))).symm | exact (congrArg Prod.fst (raw_none (Or.inr (by assumption)))).symm | exact (congrArg Prod.snd (raw_none (Or.inr (by assumption)))).symm | exact (congrArg Prod.fst (hI.trans (raw_stop (by omega) hf hw (by assumption)))).symm | exact (congrArg Prod.snd (hI.trans (raw_stop (by omega) hf hw (by assumption)))).symm | exact (congrArg Prod.fst (hI.trans (raw_end (by omega)))).symm | exact (congrArg Prod.snd (hI.trans (raw_end (by omega)))).symm
    replace hst : St w0 w1 [rowT 26 aggE (.slice none 0 0) ((rawA l k).1)] := by rw [e224] at hst; exact hst
    exact ⟨(.slice none 0 0), (retv2 rfl (congrArg (Value.int .i64) (show 1 = (rawA l k).2 from by first | exact (congrArg Prod.fst (raw_none (Or.inl (by assumption)))).symm | exact (congrArg Prod.snd (raw_none (Or.inl (by assumption)))).symm | exact (congrArg Prod.fst (raw_none (Or.inr (by assumption)))).symm | exact (congrArg Prod.snd (raw_none (Or.inr (by assumption)))).symm | exact (congrArg Prod.fst (hI.trans (raw_stop (by omega) hf hw (by assumption)))).symm | exact (congrArg Prod.snd (hI.trans (raw_stop (by omega) hf hw (by assumption)))).symm | exact (congrArg Prod.fst (hI.trans (raw_end (by omega)))).symm | exact (congrArg Prod.snd (hI.trans (raw_end (by omega)))).symm))), hst.sub (.cons_cons _ .slnil)⟩

end Go.Proofs.Ytffnhcioponbbaa
