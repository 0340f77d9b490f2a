/- the reference: twinkeepref1.Down -/
import Derived.Test.YtffnhcioponbbaaW24
import Derived.Test.YtffnhcioponbbaaW25
import Derived.Test.YtffnhcioponbbaaW26
import Derived.Test.YtffnhcioponbbaaW27
import Derived.Test.YtffnhcioponbbaaW28
import Derived.Test.YtffnhcioponbbaaW29
namespace Go.Proofs.Ytffnhcioponbbaa
open Go.RowKit

set_option maxHeartbeats 8000000 in
theorem c_rDown (w0 : World) (v_l : Value) (l : List Agg) (h_l : Sl w0 aggE v_l l) (k : Int) (hl : ∀ s ∈ l, s.ok) (hn : l.length ≤ 1000000) (k0 : -9223372036854775808 ≤ k) (k1 : k ≤ 9223372036854775807) :
    Calls Try.prog 26 #[v_l, (.int .i64 k)] w0 fun e w' => ∃ (r : Value), e = .returned (.tuple #[r, (.int .i64 ((downA l k).2))]) ∧ St w0 w' [rowT 26 aggE r ((downA l k).1)] := by
  refine calls_E (n := 77) (ts := [4, 5]) Try.func26 rfl rfl rfl (by simp) ?_
  have hst := St.start w0
  refine cE_seq ?_
  refine cE_region rfl ?_
  refine s_cons (op_assign (.slice none 0 0) rfl ?_)
  refine s_cons (op_assign (.int .i64 0) rfl ?_)
  refine s_nil ?_
  refine then_n ?_
  refine cE_seq ?_
  refine cE_seq ?_
  refine cE_region rfl ?_
  refine s_cons (op_move (.int .i64 k) rfl ?_)
  refine s_cons (op_lss (k := .i64) (a := k) (b := 2) rfl rfl ?_)
  refine s_cons (op_move (.bool (decide (k < 2))) rfl ?_)
  rcases Bool.eq_false_or_eq_true (decide (k < 2)) with b1 | b1
  · have c2 : k < 2 := of_decide_eq_true b1
    refine s_no 14 rfl (congrArg Value.bool b1) ?_
    refine s_no 14 rfl (congrArg Value.bool b1) ?_
    refine s_cons (op_pick_t (.bool true) (congrArg Value.bool b1) rfl ?_)
    refine s_cons (op_move (.bool true) rfl ?_)
    refine s_no 18 rfl rfl ?_
    refine s_no 18 rfl rfl ?_
    refine s_no 18 rfl rfl ?_
    refine s_no 18 rfl rfl ?_
    refine s_no 18 rfl rfl ?_
    refine s_cons (op_pick_t (.bool true) rfl rfl ?_)
    refine s_nil ?_
    refine then_n ?_
    refine cE_cond true rfl (fun _ => ?_) (fun h => by cases h)
    refine cE_seq ?_
    refine cE_region rfl ?_
    refine s_cons (op_assign (.slice none 0 0) rfl ?_)
    refine s_cons (op_assign (.int .i64 1) rfl ?_)
    refine s_nil ?_
    refine then_n ?_
    refine cE_ret ?_
    refine then_r ?_
    refine post_r _ (res2 (v := (.slice none 0 0)) rfl (x := (.int .i64 1)) rfl) ?_
    replace hst : St w0 w0 [rowT 26 aggE (.slice none 0 0) ([])] := hst.nilRow 26 aggE
    have e3 : [] = (downA l k).1 := by first | exact (congrArg Prod.fst (down_none (Or.inl (by omega)))).symm | exact (congrArg Prod.snd (down_none (Or.inl (by omega)))).symm | exact (congrArg Prod.fst (down_none (Or.inr (Or.inl (by assumption))))).symm | exact (congrArg Prod.snd (down_none (Or.inr (Or.inl (by assumption))))).symm | exact (congrArg Prod.fst (down_none (Or.inr (Or.inr (coarse_no (by omega)))))).symm | exact (congrArg Prod.snd (down_none (Or.inr (Or.inr (coarse_no (by omega)))))).symm | exact (congrArg Prod.fst (hJ.trans (rd_stop (by omega) (by assumption) (ham _ (List.getElem_mem _)) hco (by assumption)))).symm | exact (congrArg Prod.snd (hJ.trans (rd_stop (by omega) (by assumption) (ham _ (List.getElem_mem _)) hco (by assumption)))).symm | exact (congrArg Prod.fst (hI.trans (down_end (by omega)))).symm | exact (congrArg Prod.snd (hI.trans (down_end (by omega)))).symm
    replace hst : St w0 w0 [rowT 26 aggE (.slice none 0 0) ((downA l k).1)] := by rw [congrArg (fun l => rowT 26 aggE (.slice none 0 0) l) e3] at hst; exact hst
    exact ⟨(.slice none 0 0), (retv2 rfl (congrArg (Value.int .i64) (show 1 = (downA l k).2 from by first | exact (congrArg Prod.fst (down_none (Or.inl (by omega)))).symm | exact (congrArg Prod.snd (down_none (Or.inl (by omega)))).symm | exact (congrArg Prod.fst (down_none (Or.inr (Or.inl (by assumption))))).symm | exact (congrArg Prod.snd (down_none (Or.inr (Or.inl (by assumption))))).symm | exact (congrArg Prod.fst (down_none (Or.inr (Or.inr (coarse_no (by omega)))))).symm | exact (congrArg Prod.snd (down_none (Or.inr (Or.inr (coarse_no (by omega)))))).symm | exact (congrArg Prod.fst (hJ.trans (rd_stop (by omega) (by assumption) (ham _ (List.getElem_mem _)) hco (by assumption)))).symm | exact (congrArg Prod.snd (hJ.trans (rd_stop (by omega) (by assumption) (ham _ (List.getElem_mem _)) hco (by assumption)))).symm | exact (congrArg Prod.fst (hI.trans (down_end (by omega)))).symm | exact (congrArg Prod.snd (hI.trans (down_end (by omega)))).symm))), hst.sub (.cons_cons _ .slnil)⟩
  · have c4 : ¬ (k < 2) := of_decide_eq_false b1
    refine s_yes 14 rfl (congrArg Value.bool b1) (op_move (.int .i64 k) rfl ?_)
    refine s_yes 14 rfl (congrArg Value.bool b1) (op_gtr (k := .i64) (a := k) (b := 3) rfl rfl ?_)
    refine s_cons (op_pick_f (.bool (decide (3 < k))) (congrArg Value.bool b1) rfl ?_)
    refine s_cons (op_move (.bool (decide (3 < k))) rfl ?_)
    rcases Bool.eq_false_or_eq_true (decide (3 < k)) with b5 | b5
    · have c6 : 3 < k := of_decide_eq_true b5
      refine s_no 18 rfl (congrArg Value.bool b5) ?_
      refine s_no 18 rfl (congrArg Value.bool b5) ?_
      refine s_no 18 rfl (congrArg Value.bool b5) ?_
      refine s_no 18 rfl (congrArg Value.bool b5) ?_
      refine s_no 18 rfl (congrArg Value.bool b5) ?_
      refine s_cons (op_pick_t (.bool true) (congrArg Value.bool b5) rfl ?_)
      refine s_nil ?_
      refine then_n ?_
      refine cE_cond true rfl (fun _ => ?_) (fun h => by cases h)
      refine cE_seq ?_
      refine cE_region rfl ?_
      refine s_cons (op_assign (.slice none 0 0) rfl ?_)
      refine s_cons (op_assign (.int .i64 1) rfl ?_)
      refine s_nil ?_
      refine then_n ?_
      refine cE_ret ?_
      refine then_r ?_
      refine post_r _ (res2 (v := (.slice none 0 0)) rfl (x := (.int .i64 1)) rfl) ?_
      replace hst : St w0 w0 [rowT 26 aggE (.slice none 0 0) ([])] := hst.nilRow 26 aggE
      have e7 : [] = (downA l k).1 := by first | exact (congrArg Prod.fst (down_none (Or.inl (by omega)))).symm | exact (congrArg Prod.snd (down_none (Or.inl (by omega)))).symm | exact (congrArg Prod.fst (down_none (Or.inr (Or.inl (by assumption))))).symm | exact (congrArg Prod.snd (down_none (Or.inr (Or.inl (by assumption))))).symm | exact (congrArg Prod.fst (down_none (Or.inr (Or.inr (coarse_no (by omega)))))).symm | exact (congrArg Prod.snd (down_none (Or.inr (Or.inr (coarse_no (by omega)))))).symm | exact (congrArg Prod.fst (hJ.trans (rd_stop (by omega) (by assumption) (ham _ (List.getElem_mem _)) hco (by assumption)))).symm | exact (congrArg Prod.snd (hJ.trans (rd_stop (by omega) (by assumption) (ham _ (List.getElem_mem _)) hco (by assumption)))).symm | exact (congrArg Prod.fst (hI.trans (down_end (by omega)))).symm | exact (congrArg Prod.snd (hI.trans (down_end (by omega)))).symm
      replace hst : St w0 w0 [rowT 26 aggE (.slice none 0 0) ((downA l k).1)] := by rw [congrArg (fun l => rowT 26 aggE (.slice none 0 0) l) e7] at hst; exact hst
      exact ⟨(.slice none 0 0), (retv2 rfl (congrArg (Value.int .i64) (show 1 = (downA l k).2 from by first | exact (congrArg Prod.fst (down_none (Or.inl (by omega)))).symm | exact (congrArg Prod.snd (down_none (Or.inl (by omega)))).symm | exact (congrArg Prod.fst (down_none (Or.inr (Or.inl (by assumption))))).symm | exact (congrArg Prod.snd (down_none (Or.inr (Or.inl (by assumption))))).symm | exact (congrArg Prod.fst (down_none (Or.inr (Or.inr (coarse_no (by omega)))))).symm | exact (congrArg Prod.snd (down_none (Or.inr (Or.inr (coarse_no (by omega)))))).symm | exact (congrArg Prod.fst (hJ.trans (rd_stop (by omega) (by assumption) (ham _ (List.getElem_mem _)) hco (by assumption)))).symm | exact (congrArg Prod.snd (hJ.trans (rd_stop (by omega) (by assumption) (ham _ (List.getElem_mem _)) hco (by assumption)))).symm | exact (congrArg Prod.fst (hI.trans (down_end (by omega)))).symm | exact (congrArg Prod.snd (hI.trans (down_end (by omega)))).symm))), hst.sub (.cons_cons _ .slnil)⟩
    · have c8 : ¬ (3 < k) := of_decide_eq_false b5
      refine s_yes 18 rfl (congrArg Value.bool b5) (op_move v_l rfl ?_)
      refine s_yes 18 rfl (congrArg Value.bool b5) (op_move (.int .i64 k) rfl ?_)
      refine s_yes 18 rfl (congrArg Value.bool b5) (op_sub (k := .i64) (a := k) (b := 1) (k - 1) rfl rfl (xi64 (by omega) (by omega)) ?_)
      refine s_yes 18 rfl (congrArg Value.bool b5) (op_call Try.call33 (evs_cons (v := v_l) rfl (evs_cons (v := (.int .i64 (k - 1))) rfl evs_nil)) (c_rAligned (w0 := w0) (v_l := v_l) (l := l) (h_l := (h_l.below hst.below)) (k := (k - 1)) (hl := hl) (k0 := (by omega)) (k1 := (by omega))) ?_)
      rintro _ w9 ⟨rfl, hcall⟩
      refine ⟨_, rfl, ?_⟩
      have hst : St w0 w9 [] := hst.call hcall
      refine s_yes 18 rfl (congrArg Value.bool b5) (op_not (b := alignedA l (k - 1)) rfl ?_)
      refine s_cons (op_pick_f (.bool (!(alignedA l (k - 1)))) (congrArg Value.bool b5) rfl ?_)
      refine s_nil ?_
      refine then_n ?_
      rcases Bool.eq_false_or_eq_true (alignedA l (k - 1)) with b10 | b10
      · have hal := b10
        have ham := aligned_may hal
        refine cE_cond false (congrArg Value.bool (congrArg (! ·) b10)) (fun h => by cases h) (fun _ => ?_)
        refine cE_skip ?_
        refine then_n ?_
        refine cE_seq ?_
        have hco := coarse_yes (k := k) (by omega) (by omega)
        refine cE_region rfl ?_
        refine s_cons (op_assign (.slice none 0 0) rfl ?_)
        refine s_nil ?_
        refine then_n ?_
        refine cE_seq ?_
        refine cE_seq ?_
        refine cE_region rfl ?_
        refine s_cons (op_assign (.int .i64 0) rfl ?_)
        refine s_nil ?_
        refine then_n ?_
        refine cE_block ?_
        replace hst : St w0 w9 [rowT 26 aggE (.slice none 0 0) ([])] := hst.nilRow 26 aggE
        refine cE_loop (fun (m : Nat) (ρ : Env) (w : World) => ∃ (vo : Value) (out : List Agg) (i : Nat), m = l.length - i ∧ ρ 0 = v_l ∧ ρ 1 = (.int .i64 k) ∧ ρ 12 = (.int .i64 k) ∧ ρ 13 = (.bool (decide (k < 2))) ∧ ρ 14 = (.bool (decide (k < 2))) ∧ ρ 15 = (.int .i64 k) ∧ ρ 16 = (.bool (decide (3 < k))) ∧ ρ 17 = (.bool (decide (3 < k))) ∧ ρ 18 = (.bool (decide (3 < k))) ∧ ρ 19 = v_l ∧ ρ 20 = (.int .i64 k) ∧ ρ 21 = (.int .i64 (k - 1)) ∧ ρ 22 = (.bool (alignedA l (k - 1))) ∧ ρ 23 = (.bool (!(alignedA l (k - 1)))) ∧ ρ 24 = (.bool (!(alignedA l (k - 1)))) ∧ ρ 7 = (.int .i64 (i : Int)) ∧ ρ 6 = vo ∧ St w0 w [rowT 26 aggE vo out] ∧ i ≤ l.length ∧ out.length ≤ i ∧ downA l k = downL k (l.drop i) out ∧ Fresh l out k i) id _ ⟨(.slice none 0 0), [], 0, rfl, rfl, rfl, rfl, rfl, rfl, rfl, rfl, rfl, rfl, rfl, rfl, rfl, rfl, rfl, rfl, (congrArg (Value.int .i64) (show 0 = _ from by omega)), rfl, hst, (by omega), (by first | omega | (simp; omega) | (simp; done)), (by first | exact hJ | exact down_start (by omega) hal hco), (by first | exact fresh_nil | exact fresh_next (by first | (left; omega) | (right; exact ⟨by omega, by assumption⟩)))⟩ ?_
        rintro m12 ρ13 w14 ⟨vo, out, i, hm12, q11_0, q11_1, q11_12, q11_13, q11_14, q11_15, q11_16, q11_17, q11_18, q11_19, q11_20, q11_21, q11_22, q11_23, q11_24, q11_7, q11_6, hst, hi, hout, hI, hF⟩
        refine cE_seq ?_
        refine cE_seq ?_
        refine cE_region rfl ?_
        refine s_cons (op_move (.int .i64 (i : Int)) q11_7 ?_)
        refine s_cons (op_move v_l q11_0 ?_)
        refine s_cons (op_len (E := aggE) (xs := l) Try.underlying41 rfl h_l ?_)
        refine s_cons (op_lss (k := .i64) (a := (i : Int)) (b := (l.length : Int)) rfl rfl ?_)
        refine s_nil ?_
        refine then_n ?_
        rcases Bool.eq_false_or_eq_true (decide ((i : Int) < (l.length : Int))) with b15 | b15
        · have c16 : (i : Int) < (l.length : Int) := of_decide_eq_true b15
          refine cE_cond true (congrArg Value.bool b15) (fun _ => ?_) (fun h => by cases h)
          refine cE_skip ?_
          refine then_n ?_
          refine cE_block ?_
          refine cE_seq ?_
          have hli := hl _ (List.getElem_mem (show i < l.length by omega))
          refine cE_region rfl ?_
          refine s_cons (op_move v_l q11_0 ?_)
          refine s_cons (op_move (.int .i64 (i : Int)) q11_7 ?_)
          refine s_cons (op_indexAddrN (E := aggE) (xs := l) i Try.underlying41 Try.sizeOf26 rfl h_l rfl (by omega) (by omega) (fun a17 o18 p19 => ?_))
          refine s_cons (op_loadN (cs := [(.int .i64 ((l[i]'(by omega)).From)), (.int .i64 ((l[i]'(by omega)).Count)), (.int .i64 ((l[i]'(by omega)).Sum)), (.int .i64 ((l[i]'(by omega)).Min)), (.int .i64 ((l[i]'(by omega)).Max)), (.int .i64 ((l[i]'(by omega)).First)), (.int .i64 ((l[i]'(by omega)).Last))]) Try.isAgg26 Try.sizeOf26 rfl (Pt.of (p19.below hst.below) rfl) rfl ?_)
          refine s_cons (op_alloc (cs := #[(.int .i64 0), (.int .i64 0), (.int .i64 0), (.int .i64 0), (.int .i64 0), (.int .i64 0), (.int .i64 0)]) hst Try.zeroValue26 rfl (fun g20 w21 hst _ => ?_))
          replace hst : St w0 w21 [.blk g20 26 #[(.int .i64 0), (.int .i64 0), (.int .i64 0), (.int .i64 0), (.int .i64 0), (.int .i64 0), (.int .i64 0)], rowT 26 aggE vo out] := hst
          refine s_cons0 (op_storeAll hst 0 rfl Try.sizeOf26 rfl rfl rfl rfl (by simp [Value.oneCell']) (fun w22 hst => ?_))
          replace hst : St w0 w22 [.blk g20 26 #[(.int .i64 ((l[i]'(by omega)).From)), (.int .i64 ((l[i]'(by omega)).Count)), (.int .i64 ((l[i]'(by omega)).Sum)), (.int .i64 ((l[i]'(by omega)).Min)), (.int .i64 ((l[i]'(by omega)).Max)), (.int .i64 ((l[i]'(by omega)).First)), (.int .i64 ((l[i]'(by omega)).Last))], rowT 26 aggE vo out] := hst
          refine s_nil ?_
          refine then_n ?_
          refine cE_seq ?_
          refine cE_region rfl ?_
          refine s_cons (op_fieldAddr (s := 0) Try.underlying26 rfl rfl Try.sizeOf2 rfl ?_)
          refine s_cons (op_load1 (u := (.int .i64 ((l[i]'(by omega)).From))) Try.isAgg2 rfl (hst.cell 0 rfl) ?_)
          refine s_cons (op_move (.int .i64 k) q11_1 ?_)
          refine s_cons (op_call Try.call31 (evs_cons (v := (.int .i64 ((l[i]'(by omega)).From))) rfl (evs_cons (v := (.int .i64 k)) rfl evs_nil)) (c_rFloor (w0 := w22) (t := (l[i]'(by omega)).From) (k := k) (t0 := (by first | omega | exact (hl _ (List.getElem_mem _)).1.1)) (k0 := (by omega)) (t1 := (by first | omega | exact (hl _ (List.getElem_mem _)).1.2)) (k1 := (by omega))) ?_)
          rintro _ w23 ⟨rfl, hcall⟩
          refine ⟨_, rfl, ?_⟩
          have hst : St w0 w23 [.blk g20 26 #[(.int .i64 ((l[i]'(by omega)).From)), (.int .i64 ((l[i]'(by omega)).Count)), (.int .i64 ((l[i]'(by omega)).Sum)), (.int .i64 ((l[i]'(by omega)).Min)), (.int .i64 ((l[i]'(by omega)).Max)), (.int .i64 ((l[i]'(by omega)).First)), (.int .i64 ((l[i]'(by omega)).Last))], rowT 26 aggE vo out] := hst.call hcall
          refine s_cons (op_fieldAddr (s := 0) Try.underlying26 rfl rfl Try.sizeOf2 rfl ?_)
          refine s_cons0 (op_store1 hst 0 rfl Try.sizeOf2 rfl rfl rfl (show 0 < 7 from by decide) (fun w24 hst => ?_))
          replace hst : St w0 w24 [.blk g20 26 #[(.int .i64 (floorA ((l[i]'(by omega)).From) k)), (.int .i64 ((l[i]'(by omega)).Count)), (.int .i64 ((l[i]'(by omega)).Sum)), (.int .i64 ((l[i]'(by omega)).Min)), (.int .i64 ((l[i]'(by omega)).Max)), (.int .i64 ((l[i]'(by omega)).First)), (.int .i64 ((l[i]'(by omega)).Last))], rowT 26 aggE vo out] := hst
          refine s_nil ?_
          refine then_n ?_
          refine cE_seq ?_
          have hai := atK_ok (k := k) hli
          refine cE_region rfl ?_
          refine s_cons (op_move (.int .i64 (i : Int)) q11_7 ?_)
          refine s_cons (op_add (k := .i64) (a := (i : Int)) (b := 1) ((i : Int) + 1) rfl rfl (xi64 (by omega) (by omega)) ?_)
          refine s_cons (op_assign (.int .i64 ((i : Int) + 1)) rfl ?_)
          refine s_nil ?_
          refine then_n ?_
          refine cE_seq ?_
          refine cE_block ?_
          refine cE_loop (fun (m : Nat) (ρ : Env) (w : World) => ∃ (a : Agg) (n : Nat), m = l.length - n ∧ ρ 0 = v_l ∧ ρ 1 = (.int .i64 k) ∧ ρ 12 = (.int .i64 k) ∧ ρ 13 = (.bool (decide (k < 2))) ∧ ρ 14 = (.bool (decide (k < 2))) ∧ ρ 15 = (.int .i64 k) ∧ ρ 16 = (.bool (decide (3 < k))) ∧ ρ 17 = (.bool (decide (3 < k))) ∧ ρ 18 = (.bool (decide (3 < k))) ∧ ρ 19 = v_l ∧ ρ 20 = (.int .i64 k) ∧ ρ 21 = (.int .i64 (k - 1)) ∧ ρ 22 = (.bool (alignedA l (k - 1))) ∧ ρ 23 = (.bool (!(alignedA l (k - 1)))) ∧ ρ 24 = (.bool (!(alignedA l (k - 1)))) ∧ ρ 7 = (.int .i64 (i : Int)) ∧ ρ 6 = vo ∧ ρ 25 = (.int .i64 (i : Int)) ∧ ρ 26 = v_l ∧ ρ 27 = (.int .i64 (l.length : Int)) ∧ ρ 28 = (.bool (decide ((i : Int) < (l.length : Int)))) ∧ ρ 29 = v_l ∧ ρ 30 = (.int .i64 (i : Int)) ∧ ρ 31 = (.pointer (some ⟨a17, o18, none⟩)) ∧ ρ 32 = (.agg #[(.int .i64 ((l[i]'(by omega)).From)), (.int .i64 ((l[i]'(by omega)).Count)), (.int .i64 ((l[i]'(by omega)).Sum)), (.int .i64 ((l[i]'(by omega)).Min)), (.int .i64 ((l[i]'(by omega)).Max)), (.int .i64 ((l[i]'(by omega)).First)), (.int .i64 ((l[i]'(by omega)).Last))]) ∧ ρ 8 = (.pointer (some ⟨g20, 0, none⟩)) ∧ ρ 33 = (.pointer (some ⟨g20, (0 + 0), none⟩)) ∧ ρ 34 = (.int .i64 ((l[i]'(by omega)).From)) ∧ ρ 35 = (.int .i64 k) ∧ ρ 36 = (.int .i64 (floorA ((l[i]'(by omega)).From) k)) ∧ ρ 37 = (.pointer (some ⟨g20, (0 + 0), none⟩)) ∧ ρ 38 = (.int .i64 (i : Int)) ∧ ρ 39 = (.int .i64 ((i : Int) + 1)) ∧ ρ 9 = (.int .i64 (n : Int)) ∧ St w0 w [.blk g20 26 #[(.int .i64 a.From), (.int .i64 a.Count), (.int .i64 a.Sum), (.int .i64 a.Min), (.int .i64 a.Max), (.int .i64 a.First), (.int .i64 a.Last)], rowT 26 aggE vo out] ∧ i < n ∧ n ≤ l.length ∧ a.ok ∧ downA l k = downL k (l.drop n) (out ++ [a])) id _ ⟨(⟨(floorA ((l[i]'(by omega)).From) k), (l[i]'(by omega)).Count, (l[i]'(by omega)).Sum, (l[i]'(by omega)).Min, (l[i]'(by omega)).Max, (l[i]'(by omega)).First, (l[i]'(by omega)).Last⟩ : Agg), (i + 1), rfl, q11_0, q11_1, q11_12, q11_13, q11_14, q11_15, q11_16, q11_17, q11_18, q11_19, q11_20, q11_21, q11_22, q11_23, q11_24, q11_7, q11_6, rfl, rfl, rfl, rfl, rfl, rfl, rfl, rfl, rfl, rfl, rfl, rfl, rfl, rfl, rfl, rfl, (congrArg (Value.int .i64) (show ((i : Int) + 1) = _ from by omega)), (hst.sub (.cons_cons _ (.cons_cons _ .slnil))), (by omega), (by omega), (by first | exact hai | exact joinA_ok hao (hl _ (List.getElem_mem _))), (by first | exact hI.trans (down_fresh (by omega) hF) | exact hJ.trans (rd_join (by omega) (by assumption) (ham _ (List.getElem_mem _)) hco (by assumption)))⟩ ?_
          rintro m26 ρ27 w28 ⟨a, n, hm26, q25_0, q25_1, q25_12, q25_13, q25_14, q25_15, q25_16, q25_17, q25_18, q25_19, q25_20, q25_21, q25_22, q25_23, q25_24, q25_7, q25_6, q25_25, q25_26, q25_27, q25_28, q25_29, q25_30, q25_31, q25_32, q25_8, q25_33, q25_34, q25_35, q25_36, q25_37, q25_38, q25_39, q25_9, hst, hn1, hnr, hao, hJ⟩
          have hel := fun (s : Agg) (h : s ∈ l) => (hl s h).1
          refine cE_seq ?_
          refine cE_seq ?_
          rcases Bool.eq_false_or_eq_true (decide ((n : Int) < (l.length : Int))) with b29 | b29
          · have c30 : (n : Int) < (l.length : Int) := of_decide_eq_true b29
            refine cE_regionL hst [[(9, none)], [(0, none)], [(41, some 1)], [(40, some 0), (42, some 2)], [(43, some 3)], [(0, none), (44, some 4)], [(9, none), (44, some 4)], [(45, some 5), (46, some 6), (44, some 4)], [(47, some 7), (44, some 4)], [(48, some 8), (44, some 4)], [(1, none), (44, some 4)], [(49, some 9), (50, some 10), (44, some 4)], [(8, none), (44, some 4)], [(52, some 12), (44, some 4)], [(51, some 11), (53, some 13), (44, some 4)], [(44, some 4), (54, some 14)]] [(rEq (.int .i64 (n : Int))), (rEq v_l), (rEq (.int .i64 (l.length : Int))), (rEq (.bool (decide ((n : Int) < (l.length : Int))))), (rEq (.bool (decide ((n : Int) < (l.length : Int))))), (rEq v_l), (rEq (.int .i64 (n : Int))), (rPt [(.int .i64 ((l[n]'(by omega)).From)), (.int .i64 ((l[n]'(by omega)).Count)), (.int .i64 ((l[n]'(by omega)).Sum)), (.int .i64 ((l[n]'(by omega)).Min)), (.int .i64 ((l[n]'(by omega)).Max)), (.int .i64 ((l[n]'(by omega)).First)), (.int .i64 ((l[n]'(by omega)).Last))]), (rPt [(.int .i64 ((l[n]'(by omega)).From)), (.int .i64 ((l[n]'(by omega)).Count)), (.int .i64 ((l[n]'(by omega)).Sum)), (.int .i64 ((l[n]'(by omega)).Min)), (.int .i64 ((l[n]'(by omega)).Max)), (.int .i64 ((l[n]'(by omega)).First)), (.int .i64 ((l[n]'(by omega)).Last))]), (rEq (.int .i64 ((l[n]'(by omega)).From))), (rEq (.int .i64 k)), (rEq (.int .i64 (floorA ((l[n]'(by omega)).From) k))), (rEq (.pointer (some ⟨g20, (0 + 0), none⟩))), (rEq (.int .i64 a.From)), (rEq (.bool (decide ((floorA ((l[n]'(by omega)).From) k) = a.From)))), (rEq (.bool (decide ((floorA ((l[n]'(by omega)).From) k) = a.From))))] (by kernel_rfl) rfl (by kernel_rfl) ⟨sEq, sEq, sEq, sEq, sEq, sEq, sEq, sPt, sPt, sEq, sEq, sEq, sEq, sEq, sEq, sEq, trivial⟩ ⟨?_, ?_, ?_, ?_, ?_, ?_, ?_, ?_, ?_, ?_, ?_, ?_, ?_, ?_, ?_, ?_, trivial⟩ ?_
            · rintro ρ35 w36 hj37 ⟨f9, _⟩
              have hst := hj37.2
              exact go_plain (op_move (.int .i64 (n : Int)) (f9.trans q25_9) (kS hj37 rfl))
            · rintro ρ38 w39 hj40 ⟨f0, _⟩
              have hst := hj40.2
              exact go_plain (op_move v_l (f0.trans q25_0) (kS hj40 rfl))
            · rintro ρ41 w42 hj43 ⟨f41, _⟩
              have hst := hj43.2
              exact go_plain (op_len (E := aggE) (xs := l) Try.underlying41 f41 h_l (kS hj43 rfl))
            · rintro ρ44 w45 hj46 ⟨f40, f42, _⟩
              have hst := hj46.2
              exact go_plain (op_lss (k := .i64) (a := (n : Int)) (b := (l.length : Int)) f40 f42 (kS hj46 rfl))
            · rintro ρ47 w48 hj49 ⟨f43, _⟩
              have hst := hj49.2
              exact go_plain (op_move (.bool (decide ((n : Int) < (l.length : Int)))) f43 (kS hj49 rfl))
            · rintro ρ50 w51 hj52 ⟨f0, f44, _⟩
              have hst := hj52.2
              exact go_yes 44 rfl (f44.trans (congrArg Value.bool b29)) (op_move v_l (f0.trans q25_0) (kS hj52 rfl))
            · rintro ρ53 w54 hj55 ⟨f9, f44, _⟩
              have hst := hj55.2
              exact go_yes 44 rfl (f44.trans (congrArg Value.bool b29)) (op_move (.int .i64 (n : Int)) (f9.trans q25_9) (kS hj55 rfl))
            · rintro ρ56 w57 hj58 ⟨f45, f46, f44, _⟩
              have hst := hj58.2
              refine go_yes 44 rfl (f44.trans (congrArg Value.bool b29)) (op_indexAddrN (E := aggE) (xs := l) n Try.underlying41 Try.sizeOf26 f45 h_l f46 (by omega) (by omega) (fun a59 o60 p61 => ?_))
              exact kS hj58 ⟨_, _, rfl, (p61.below hst.below)⟩
            · rintro ρ62 w63 hj64 ⟨f47, f44, _⟩
              have hst := hj64.2
              obtain ⟨a65, o66, e67, p68⟩ := f47
              exact go_yes 44 rfl (f44.trans (congrArg Value.bool b29)) (op_fieldAddr (s := 0) Try.underlying26 rfl rfl Try.sizeOf2 e67 (kS hj64 ⟨_, _, rfl, p68⟩))
            · rintro ρ69 w70 hj71 ⟨f48, f44, _⟩
              have hst := hj71.2
              obtain ⟨a72, o73, e74, p75⟩ := f48
              exact go_yes 44 rfl (f44.trans (congrArg Value.bool b29)) (op_load1 (u := (.int .i64 ((l[n]'(by omega)).From))) Try.isAgg2 e74 p75 (kS hj71 rfl))
            · rintro ρ76 w77 hj78 ⟨f1, f44, _⟩
              have hst := hj78.2
              exact go_yes 44 rfl (f44.trans (congrArg Value.bool b29)) (op_move (.int .i64 k) (f1.trans q25_1) (kS hj78 rfl))
            · rintro ρ79 w80 hj81 ⟨f49, f50, f44, _⟩
              have hst := hj81.2
              refine go_yes 44 rfl (f44.trans (congrArg Value.bool b29)) (op_call Try.call31 (evs_cons (v := (.int .i64 ((l[n]'(by omega)).From))) f49 (evs_cons (v := (.int .i64 k)) f50 evs_nil)) (c_rFloor (w0 := w80) (t := (l[n]'(by omega)).From) (k := k) (t0 := (by first | omega | exact (hl _ (List.getElem_mem _)).1.1)) (k0 := (by omega)) (t1 := (by first | omega | exact (hl _ (List.getElem_mem _)).1.2)) (k1 := (by omega))) ?_)
              rintro _ w82 ⟨rfl, hcall⟩
              refine ⟨_, rfl, ?_⟩
              exact kD hj81 hcall rfl
            · rintro ρ83 w84 hj85 ⟨f8, f44, _⟩
              have hst := hj85.2
              exact go_yes 44 rfl (f44.trans (congrArg Value.bool b29)) (op_fieldAddr (s := 0) Try.underlying26 rfl rfl Try.sizeOf2 (f8.trans q25_8) (kS hj85 rfl))
            · rintro ρ86 w87 hj88 ⟨f52, f44, _⟩
              have hst := hj88.2
              exact go_yes 44 rfl (f44.trans (congrArg Value.bool b29)) (op_load1 (u := (.int .i64 a.From)) Try.isAgg2 f52 (hst.cell 0 rfl) (kS hj88 rfl))
            · rintro ρ89 w90 hj91 ⟨f51, f53, f44, _⟩
              have hst := hj91.2
              exact go_yes 44 rfl (f44.trans (congrArg Value.bool b29)) (op_eql (k := .i64) (a := (floorA ((l[n]'(by omega)).From) k)) (b := a.From) f51 f53 (kS hj91 rfl))
            · rintro ρ92 w93 hj94 ⟨f44, f54, _⟩
              have hst := hj94.2
              exact go_plain (op_pick_t (.bool (decide ((floorA ((l[n]'(by omega)).From) k) = a.From))) (f44.trans (congrArg Value.bool b29)) f54 (kS hj94 rfl))
            · intro ρ95 w96 hbw96 hst hRw96 hkw96
              have uw96_0 : ρ95 0 = v_l := (hkw96 0 rfl).trans q25_0
              have uw96_1 : ρ95 1 = (.int .i64 k) := (hkw96 1 rfl).trans q25_1
              have uw96_12 : ρ95 12 = (.int .i64 k) := (hkw96 12 rfl).trans q25_12
              have uw96_13 : ρ95 13 = (.bool (decide (k < 2))) := (hkw96 13 rfl).trans q25_13
              have uw96_14 : ρ95 14 = (.bool (decide (k < 2))) := (hkw96 14 rfl).trans q25_14
              have uw96_15 : ρ95 15 = (.int .i64 k) := (hkw96 15 rfl).trans q25_15
              have uw96_16 : ρ95 16 = (.bool (decide (3 < k))) := (hkw96 16 rfl).trans q25_16
              have uw96_17 : ρ95 17 = (.bool (decide (3 < k))) := (hkw96 17 rfl).trans q25_17
              have uw96_18 : ρ95 18 = (.bool (decide (3 < k))) := (hkw96 18 rfl).trans q25_18
              have uw96_19 : ρ95 19 = v_l := (hkw96 19 rfl).trans q25_19
              have uw96_20 : ρ95 20 = (.int .i64 k) := (hkw96 20 rfl).trans q25_20
              have uw96_21 : ρ95 21 = (.int .i64 (k - 1)) := (hkw96 21 rfl).trans q25_21
              have uw96_22 : ρ95 22 = (.bool (alignedA l (k - 1))) := (hkw96 22 rfl).trans q25_22
              have uw96_23 : ρ95 23 = (.bool (!(alignedA l (k - 1)))) := (hkw96 23 rfl).trans q25_23
              have uw96_24 : ρ95 24 = (.bool (!(alignedA l (k - 1)))) := (hkw96 24 rfl).trans q25_24
              have uw96_7 : ρ95 7 = (.int .i64 (i : Int)) := (hkw96 7 rfl).trans q25_7
              have uw96_6 : ρ95 6 = vo := (hkw96 6 rfl).trans q25_6
              have uw96_25 : ρ95 25 = (.int .i64 (i : Int)) := (hkw96 25 rfl).trans q25_25
              have uw96_26 : ρ95 26 = v_l := (hkw96 26 rfl).trans q25_26
              have uw96_27 : ρ95 27 = (.int .i64 (l.length : Int)) := (hkw96 27 rfl).trans q25_27
              have uw96_28 : ρ95 28 = (.bool (decide ((i : Int) < (l.length : Int)))) := (hkw96 28 rfl).trans q25_28
              have uw96_29 : ρ95 29 = v_l := (hkw96 29 rfl).trans q25_29
              have uw96_30 : ρ95 30 = (.int .i64 (i : Int)) := (hkw96 30 rfl).trans q25_30
              have uw96_31 : ρ95 31 = (.pointer (some ⟨a17, o18, none⟩)) := (hkw96 31 rfl).trans q25_31
              have uw96_32 : ρ95 32 = (.agg #[(.int .i64 ((l[i]'(by omega)).From)), (.int .i64 ((l[i]'(by omega)).Count)), (.int .i64 ((l[i]'(by omega)).Sum)), (.int .i64 ((l[i]'(by omega)).Min)), (.int .i64 ((l[i]'(by omega)).Max)), (.int .i64 ((l[i]'(by omega)).First)), (.int .i64 ((l[i]'(by omega)).Last))]) := (hkw96 32 rfl).trans q25_32
              have uw96_8 : ρ95 8 = (.pointer (some ⟨g20, 0, none⟩)) := (hkw96 8 rfl).trans q25_8
              have uw96_33 : ρ95 33 = (.pointer (some ⟨g20, (0 + 0), none⟩)) := (hkw96 33 rfl).trans q25_33
              have uw96_34 : ρ95 34 = (.int .i64 ((l[i]'(by omega)).From)) := (hkw96 34 rfl).trans q25_34
              have uw96_35 : ρ95 35 = (.int .i64 k) := (hkw96 35 rfl).trans q25_35
              have uw96_36 : ρ95 36 = (.int .i64 (floorA ((l[i]'(by omega)).From) k)) := (hkw96 36 rfl).trans q25_36
              have uw96_37 : ρ95 37 = (.pointer (some ⟨g20, (0 + 0), none⟩)) := (hkw96 37 rfl).trans q25_37
              have uw96_38 : ρ95 38 = (.int .i64 (i : Int)) := (hkw96 38 rfl).trans q25_38
              have uw96_39 : ρ95 39 = (.int .i64 ((i : Int) + 1)) := (hkw96 39 rfl).trans q25_39
              have uw96_9 : ρ95 9 = (.int .i64 (n : Int)) := (hkw96 9 rfl).trans q25_9
              have uw96_55 : ρ95 55 = (.bool (decide ((floorA ((l[n]'(by omega)).From) k) = a.From))) := hRw96 15 55 rfl
              refine then_n ?_
              rcases Bool.eq_false_or_eq_true (decide ((floorA ((l[n]'(by omega)).From) k) = a.From)) with b97 | b97
              · have c98 : (floorA ((l[n]'(by omega)).From) k) = a.From := of_decide_eq_true b97
                refine cE_cond true (uw96_55.trans (congrArg Value.bool b97)) (fun _ => ?_) (fun h => by cases h)
                refine cE_skip ?_
                refine then_n ?_
                refine cE_block ?_
                refine cE_seq ?_
                have hM106 : stabML [10] [(kEq (.agg #[(.int .i64 a.From), (.int .i64 a.Count), (.int .i64 a.Sum), (.int .i64 a.Min), (.int .i64 a.Max), (.int .i64 a.First), (.int .i64 a.Last)])), (kEq v_l), (kEq (.int .i64 (n : Int))), (kPt0 w0 [(.int .i64 ((l[n]'(by omega)).From)), (.int .i64 ((l[n]'(by omega)).Count)), (.int .i64 ((l[n]'(by omega)).Sum)), (.int .i64 ((l[n]'(by omega)).Min)), (.int .i64 ((l[n]'(by omega)).Max)), (.int .i64 ((l[n]'(by omega)).First)), (.int .i64 ((l[n]'(by omega)).Last))]), (kEq (.agg #[(.int .i64 ((l[n]'(by omega)).From)), (.int .i64 ((l[n]'(by omega)).Count)), (.int .i64 ((l[n]'(by omega)).Sum)), (.int .i64 ((l[n]'(by omega)).Min)), (.int .i64 ((l[n]'(by omega)).Max)), (.int .i64 ((l[n]'(by omega)).First)), (.int .i64 ((l[n]'(by omega)).Last))])), (kEq (.tuple #[(.agg #[(.int .i64 (((joinA a (l[n]'(by omega))).1).From)), (.int .i64 (((joinA a (l[n]'(by omega))).1).Count)), (.int .i64 (((joinA a (l[n]'(by omega))).1).Sum)), (.int .i64 (((joinA a (l[n]'(by omega))).1).Min)), (.int .i64 (((joinA a (l[n]'(by omega))).1).Max)), (.int .i64 (((joinA a (l[n]'(by omega))).1).First)), (.int .i64 (((joinA a (l[n]'(by omega))).1).Last))]), (.int .i64 ((joinA a (l[n]'(by omega))).2))])), (kEq (.tuple #[(.agg #[(.int .i64 (((joinA a (l[n]'(by omega))).1).From)), (.int .i64 (((joinA a (l[n]'(by omega))).1).Count)), (.int .i64 (((joinA a (l[n]'(by omega))).1).Sum)), (.int .i64 (((joinA a (l[n]'(by omega))).1).Min)), (.int .i64 (((joinA a (l[n]'(by omega))).1).Max)), (.int .i64 (((joinA a (l[n]'(by omega))).1).First)), (.int .i64 (((joinA a (l[n]'(by omega))).1).Last))]), (.int .i64 ((joinA a (l[n]'(by omega))).2))])), (kEq (.agg #[(.int .i64 (((joinA a (l[n]'(by omega))).1).From)), (.int .i64 (((joinA a (l[n]'(by omega))).1).Count)), (.int .i64 (((joinA a (l[n]'(by omega))).1).Sum)), (.int .i64 (((joinA a (l[n]'(by omega))).1).Min)), (.int .i64 (((joinA a (l[n]'(by omega))).1).Max)), (.int .i64 (((joinA a (l[n]'(by omega))).1).First)), (.int .i64 (((joinA a (l[n]'(by omega))).1).Last))])), (kEq (.int .i64 ((joinA a (l[n]'(by omega))).2))), (fun (D : Nat → Bool) (v : Value) (w : World) => ∃ g103 : Nat, v = .pointer (some ⟨g103, 0, none⟩) ∧ (D 10 = false → St w0 w [.blk g103 26 #[(.int .i64 0), (.int .i64 0), (.int .i64 0), (.int .i64 0), (.int .i64 0), (.int .i64 0), (.int .i64 0)], .blk g20 26 #[(.int .i64 a.From), (.int .i64 a.Count), (.int .i64 a.Sum), (.int .i64 a.Min), (.int .i64 a.Max), (.int .i64 a.First), (.int .i64 a.Last)], rowT 26 aggE vo out]) ∧ (D 10 = true → St w0 w [.blk g103 26 #[(.int .i64 (((joinA a (l[n]'(by omega))).1).From)), (.int .i64 (((joinA a (l[n]'(by omega))).1).Count)), (.int .i64 (((joinA a (l[n]'(by omega))).1).Sum)), (.int .i64 (((joinA a (l[n]'(by omega))).1).Min)), (.int .i64 (((joinA a (l[n]'(by omega))).1).Max)), (.int .i64 (((joinA a (l[n]'(by omega))).1).First)), (.int .i64 (((joinA a (l[n]'(by omega))).1).Last))], .blk g20 26 #[(.int .i64 a.From), (.int .i64 a.Count), (.int .i64 a.Sum), (.int .i64 a.Min), (.int .i64 a.Max), (.int .i64 a.First), (.int .i64 a.Last)], rowT 26 aggE vo out])), kAny, (kEq (.int .i64 ((joinA a (l[n]'(by omega))).2)))] := ⟨mEq, mEq, mEq, mPt0, mEq, mEq, mEq, mEq, mEq, (fun D D' v w w' hD hb ⟨g, h1, h2⟩ => ⟨g, h1, (fun x0 => (h2.1 ((hD 10 (by decide)).symm.trans x0)).ext hb), (fun x0 => (h2.2 ((hD 10 (by decide)).symm.trans x0)).ext hb)⟩), mAny, mEq, trivial⟩
                refine cE_regionK (fun (D : Nat → Bool) (w : World) => St w0 w [.blk g20 26 #[(.int .i64 a.From), (.int .i64 a.Count), (.int .i64 a.Sum), (.int .i64 a.Min), (.int .i64 a.Max), (.int .i64 a.First), (.int .i64 a.Last)], rowT 26 aggE vo out] ∧ (D 10 = false → St w0 w [.blk g20 26 #[(.int .i64 a.From), (.int .i64 a.Count), (.int .i64 a.Sum), (.int .i64 a.Min), (.int .i64 a.Max), (.int .i64 a.First), (.int .i64 a.Last)], rowT 26 aggE vo out]) ∧ (D 10 = true → St w0 w [.blk g20 26 #[(.int .i64 a.From), (.int .i64 a.Count), (.int .i64 a.Sum), (.int .i64 a.Min), (.int .i64 a.Max), (.int .i64 a.First), (.int .i64 a.Last)], rowT 26 aggE vo out])) [[(8, none)], [(0, none)], [(9, none)], [(58, some 1), (59, some 2)], [(60, some 3)], [(57, some 0), (61, some 4)], [(62, some 5)], [(56, some 6)], [(56, some 6)], [], [(10, some 9), (63, some 7)], [(64, some 8)]] (RofK [(kEq (.agg #[(.int .i64 a.From), (.int .i64 a.Count), (.int .i64 a.Sum), (.int .i64 a.Min), (.int .i64 a.Max), (.int .i64 a.First), (.int .i64 a.Last)])), (kEq v_l), (kEq (.int .i64 (n : Int))), (kPt0 w0 [(.int .i64 ((l[n]'(by omega)).From)), (.int .i64 ((l[n]'(by omega)).Count)), (.int .i64 ((l[n]'(by omega)).Sum)), (.int .i64 ((l[n]'(by omega)).Min)), (.int .i64 ((l[n]'(by omega)).Max)), (.int .i64 ((l[n]'(by omega)).First)), (.int .i64 ((l[n]'(by omega)).Last))]), (kEq (.agg #[(.int .i64 ((l[n]'(by omega)).From)), (.int .i64 ((l[n]'(by omega)).Count)), (.int .i64 ((l[n]'(by omega)).Sum)), (.int .i64 ((l[n]'(by omega)).Min)), (.int .i64 ((l[n]'(by omega)).Max)), (.int .i64 ((l[n]'(by omega)).First)), (.int .i64 ((l[n]'(by omega)).Last))])), (kEq (.tuple #[(.agg #[(.int .i64 (((joinA a (l[n]'(by omega))).1).From)), (.int .i64 (((joinA a (l[n]'(by omega))).1).Count)), (.int .i64 (((joinA a (l[n]'(by omega))).1).Sum)), (.int .i64 (((joinA a (l[n]'(by omega))).1).Min)), (.int .i64 (((joinA a (l[n]'(by omega))).1).Max)), (.int .i64 (((joinA a (l[n]'(by omega))).1).First)), (.int .i64 (((joinA a (l[n]'(by omega))).1).Last))]), (.int .i64 ((joinA a (l[n]'(by omega))).2))])), (kEq (.tuple #[(.agg #[(.int .i64 (((joinA a (l[n]'(by omega))).1).From)), (.int .i64 (((joinA a (l[n]'(by omega))).1).Count)), (.int .i64 (((joinA a (l[n]'(by omega))).1).Sum)), (.int .i64 (((joinA a (l[n]'(by omega))).1).Min)), (.int .i64 (((joinA a (l[n]'(by omega))).1).Max)), (.int .i64 (((joinA a (l[n]'(by omega))).1).First)), (.int .i64 (((joinA a (l[n]'(by omega))).1).Last))]), (.int .i64 ((joinA a (l[n]'(by omega))).2))])), (kEq (.agg #[(.int .i64 (((joinA a (l[n]'(by omega))).1).From)), (.int .i64 (((joinA a (l[n]'(by omega))).1).Count)), (.int .i64 (((joinA a (l[n]'(by omega))).1).Sum)), (.int .i64 (((joinA a (l[n]'(by omega))).1).Min)), (.int .i64 (((joinA a (l[n]'(by omega))).1).Max)), (.int .i64 (((joinA a (l[n]'(by omega))).1).First)), (.int .i64 (((joinA a (l[n]'(by omega))).1).Last))])), (kEq (.int .i64 ((joinA a (l[n]'(by omega))).2))), (fun (D : Nat → Bool) (v : Value) (w : World) => ∃ g103 : Nat, v = .pointer (some ⟨g103, 0, none⟩) ∧ (D 10 = false → St w0 w [.blk g103 26 #[(.int .i64 0), (.int .i64 0), (.int .i64 0), (.int .i64 0), (.int .i64 0), (.int .i64 0), (.int .i64 0)], .blk g20 26 #[(.int .i64 a.From), (.int .i64 a.Count), (.int .i64 a.Sum), (.int .i64 a.Min), (.int .i64 a.Max), (.int .i64 a.First), (.int .i64 a.Last)], rowT 26 aggE vo out]) ∧ (D 10 = true → St w0 w [.blk g103 26 #[(.int .i64 (((joinA a (l[n]'(by omega))).1).From)), (.int .i64 (((joinA a (l[n]'(by omega))).1).Count)), (.int .i64 (((joinA a (l[n]'(by omega))).1).Sum)), (.int .i64 (((joinA a (l[n]'(by omega))).1).Min)), (.int .i64 (((joinA a (l[n]'(by omega))).1).Max)), (.int .i64 (((joinA a (l[n]'(by omega))).1).First)), (.int .i64 (((joinA a (l[n]'(by omega))).1).Last))], .blk g20 26 #[(.int .i64 a.From), (.int .i64 a.Count), (.int .i64 a.Sum), (.int .i64 a.Min), (.int .i64 a.Max), (.int .i64 a.First), (.int .i64 a.Last)], rowT 26 aggE vo out])), kAny, (kEq (.int .i64 ((joinA a (l[n]'(by omega))).2)))]) (by kernel_rfl) rfl (by kernel_rfl) ⟨hst.drewW.sub (.cons_cons _ (.cons_cons _ .slnil)), (fun _ => hst.drewW), (fun h => absurd h Bool.false_ne_true)⟩ ⟨?_, ?_, ?_, ?_, ?_, ?_, ?_, ?_, ?_, ?_, ?_, ?_, trivial⟩ ?_
                · rintro D108 ρ109 w110 hD111 hE112 hC113 hJ114 hA115 ⟨f8, _⟩
                  have hst := hJ114.2.1 (not_yet hD111 (fun hm => (hC113 10 0 hm (by kernel_rfl))))
                  replace hst : St w0 w110 [.blk g20 26 #[(.int .i64 a.From), (.int .i64 a.Count), (.int .i64 a.Sum), (.int .i64 a.Min), (.int .i64 a.Max), (.int .i64 a.First), (.int .i64 a.Last)], rowT 26 aggE vo out] := hst
                  exact go_plain (op_loadN (cs := [(.int .i64 a.From), (.int .i64 a.Count), (.int .i64 a.Sum), (.int .i64 a.Min), (.int .i64 a.Max), (.int .i64 a.First), (.int .i64 a.Last)]) Try.isAgg26 Try.sizeOf26 (f8.trans uw96_8) (Pt.of (hst.cell 0 rfl) rfl) rfl (kN0 (i := 0) hM106 (by decide) (by exact hJ114) (by exact rfl)))
                · rintro D116 ρ117 w118 hD119 hE120 hC121 hJ122 hA123 ⟨f0, _⟩
                  have hst := hJ122.2.1 (not_yet hD119 (fun hm => (hC121 10 1 hm (by kernel_rfl))))
                  replace hst : St w0 w118 [.blk g20 26 #[(.int .i64 a.From), (.int .i64 a.Count), (.int .i64 a.Sum), (.int .i64 a.Min), (.int .i64 a.Max), (.int .i64 a.First), (.int .i64 a.Last)], rowT 26 aggE vo out] := hst
                  exact go_plain (op_move v_l (f0.trans uw96_0) (kN0 (i := 1) hM106 (by decide) (by exact hJ122) (by exact rfl)))
                · rintro D124 ρ125 w126 hD127 hE128 hC129 hJ130 hA131 ⟨f9, _⟩
                  have hst := hJ130.2.1 (not_yet hD127 (fun hm => (hC129 10 2 hm (by kernel_rfl))))
                  replace hst : St w0 w126 [.blk g20 26 #[(.int .i64 a.From), (.int .i64 a.Count), (.int .i64 a.Sum), (.int .i64 a.Min), (.int .i64 a.Max), (.int .i64 a.First), (.int .i64 a.Last)], rowT 26 aggE vo out] := hst
                  exact go_plain (op_move (.int .i64 (n : Int)) (f9.trans uw96_9) (kN0 (i := 2) hM106 (by decide) (by exact hJ130) (by exact rfl)))
                · rintro D132 ρ133 w134 hD135 hE136 hC137 hJ138 hA139 ⟨f58, f59, _⟩
                  have hst := hJ138.2.1 (not_yet hD135 (fun hm => (hC137 10 3 hm (by kernel_rfl))))
                  replace hst : St w0 w134 [.blk g20 26 #[(.int .i64 a.From), (.int .i64 a.Count), (.int .i64 a.Sum), (.int .i64 a.Min), (.int .i64 a.Max), (.int .i64 a.First), (.int .i64 a.Last)], rowT 26 aggE vo out] := hst
                  refine go_plain (op_indexAddrN (E := aggE) (xs := l) n Try.underlying41 Try.sizeOf26 f58 h_l f59 (by omega) (by omega) (fun a140 o141 p142 => ?_))
                  exact (kN0 (i := 3) hM106 (by decide) (by exact hJ138) (by exact ⟨_, _, rfl, p142⟩))
                · rintro D143 ρ144 w145 hD146 hE147 hC148 hJ149 hA150 ⟨f60, _⟩
                  have hst := hJ149.2.1 (not_yet hD146 (fun hm => (hC148 10 4 hm (by kernel_rfl))))
                  replace hst : St w0 w145 [.blk g20 26 #[(.int .i64 a.From), (.int .i64 a.Count), (.int .i64 a.Sum), (.int .i64 a.Min), (.int .i64 a.Max), (.int .i64 a.First), (.int .i64 a.Last)], rowT 26 aggE vo out] := hst
                  obtain ⟨a151, o152, e153, p154⟩ := f60
                  exact go_plain (op_loadN (cs := [(.int .i64 ((l[n]'(by omega)).From)), (.int .i64 ((l[n]'(by omega)).Count)), (.int .i64 ((l[n]'(by omega)).Sum)), (.int .i64 ((l[n]'(by omega)).Min)), (.int .i64 ((l[n]'(by omega)).Max)), (.int .i64 ((l[n]'(by omega)).First)), (.int .i64 ((l[n]'(by omega)).Last))]) Try.isAgg26 Try.sizeOf26 e153 (Pt.of (p154.below hst.below) rfl) rfl (kN0 (i := 4) hM106 (by decide) (by exact hJ149) (by exact rfl)))
                · rintro D155 ρ156 w157 hD158 hE159 hC160 hJ161 hA162 ⟨f57, f61, _⟩
                  have hst := hJ161.2.1 (not_yet hD158 (fun hm => (hC160 10 5 hm (by kernel_rfl))))
                  replace hst : St w0 w157 [.blk g20 26 #[(.int .i64 a.From), (.int .i64 a.Count), (.int .i64 a.Sum), (.int .i64 a.Min), (.int .i64 a.Max), (.int .i64 a.First), (.int .i64 a.Last)], rowT 26 aggE vo out] := hst
                  refine go_plain (op_call Try.call37 (evs_cons (v := (.agg #[(.int .i64 a.From), (.int .i64 a.Count), (.int .i64 a.Sum), (.int .i64 a.Min), (.int .i64 a.Max), (.int .i64 a.First), (.int .i64 a.Last)])) f57 (evs_cons (v := (.agg #[(.int .i64 ((l[n]'(by omega)).From)), (.int .i64 ((l[n]'(by omega)).Count)), (.int .i64 ((l[n]'(by omega)).Sum)), (.int .i64 ((l[n]'(by omega)).Min)), (.int .i64 ((l[n]'(by omega)).Max)), (.int .i64 ((l[n]'(by omega)).First)), (.int .i64 ((l[n]'(by omega)).Last))])) f61 evs_nil)) (c_rJoin (w0 := w157) (a := a) (b := (l[n]'(by omega))) (ha := hao) (hb := (hl _ (List.getElem_mem _)))) ?_)
                  rintro _ w163 ⟨rfl, hcall⟩
                  refine ⟨_, rfl, ?_⟩
                  exact kN (i := 5) hM106 (by decide) hcall.below (by exact ⟨(hJ161.1).ext hcall.below, (fun x0 => (hJ161.2.1 x0).ext hcall.below), (fun x0 => (hJ161.2.2 x0).ext hcall.below)⟩) (by exact rfl)
                · rintro D164 ρ165 w166 hD167 hE168 hC169 hJ170 hA171 ⟨f62, _⟩
                  have hst := hJ170.2.1 (not_yet hD167 (fun hm => (hC169 10 6 hm (by kernel_rfl))))
                  replace hst : St w0 w166 [.blk g20 26 #[(.int .i64 a.From), (.int .i64 a.Count), (.int .i64 a.Sum), (.int .i64 a.Min), (.int .i64 a.Max), (.int .i64 a.First), (.int .i64 a.Last)], rowT 26 aggE vo out] := hst
                  exact go_plain (op_move (.tuple #[(.agg #[(.int .i64 (((joinA a (l[n]'(by omega))).1).From)), (.int .i64 (((joinA a (l[n]'(by omega))).1).Count)), (.int .i64 (((joinA a (l[n]'(by omega))).1).Sum)), (.int .i64 (((joinA a (l[n]'(by omega))).1).Min)), (.int .i64 (((joinA a (l[n]'(by omega))).1).Max)), (.int .i64 (((joinA a (l[n]'(by omega))).1).First)), (.int .i64 (((joinA a (l[n]'(by omega))).1).Last))]), (.int .i64 ((joinA a (l[n]'(by omega))).2))]) f62 (kN0 (i := 6) hM106 (by decide) (by exact hJ170) (by exact rfl)))
                · rintro D172 ρ173 w174 hD175 hE176 hC177 hJ178 hA179 ⟨f56, _⟩
                  have hst := hJ178.2.1 (not_yet hD175 (fun hm => (hC177 10 7 hm (by kernel_rfl))))
                  replace hst : St w0 w174 [.blk g20 26 #[(.int .i64 a.From), (.int .i64 a.Count), (.int .i64 a.Sum), (.int .i64 a.Min), (.int .i64 a.Max), (.int .i64 a.First), (.int .i64 a.Last)], rowT 26 aggE vo out] := hst
                  exact go_plain (op_extract (.agg #[(.int .i64 (((joinA a (l[n]'(by omega))).1).From)), (.int .i64 (((joinA a (l[n]'(by omega))).1).Count)), (.int .i64 (((joinA a (l[n]'(by omega))).1).Sum)), (.int .i64 (((joinA a (l[n]'(by omega))).1).Min)), (.int .i64 (((joinA a (l[n]'(by omega))).1).Max)), (.int .i64 (((joinA a (l[n]'(by omega))).1).First)), (.int .i64 (((joinA a (l[n]'(by omega))).1).Last))]) f56 rfl (kN0 (i := 7) hM106 (by decide) (by exact hJ178) (by exact rfl)))
                · rintro D180 ρ181 w182 hD183 hE184 hC185 hJ186 hA187 ⟨f56, _⟩
                  have hst := hJ186.1
                  exact go_plain (op_extract (.int .i64 ((joinA a (l[n]'(by omega))).2)) f56 rfl (kN0 (i := 8) hM106 (by decide) (by exact hJ186) (by exact rfl)))
                · rintro D188 ρ189 w190 hD191 hE192 hC193 hJ194 hA195 ⟨_⟩
                  have hst := hJ194.2.1 (not_yet hD191 (fun hm => (hC193 10 9 hm (by kernel_rfl))))
                  replace hst : St w0 w190 [.blk g20 26 #[(.int .i64 a.From), (.int .i64 a.Count), (.int .i64 a.Sum), (.int .i64 a.Min), (.int .i64 a.Max), (.int .i64 a.First), (.int .i64 a.Last)], rowT 26 aggE vo out] := hst
                  have hst := St.start w190
                  refine go_plain (op_alloc (cs := #[(.int .i64 0), (.int .i64 0), (.int .i64 0), (.int .i64 0), (.int .i64 0), (.int .i64 0), (.int .i64 0)]) hst Try.zeroValue26 rfl (fun g196 w197 hst _ => ?_))
                  exact kN (i := 9) hM106 (by decide) hst.below (by exact ⟨(hJ194.1).ext hst.below, (fun x0 => (hJ194.2.1 x0).ext hst.below), (fun x0 => (hJ194.2.2 x0).ext hst.below)⟩) (by exact ⟨_, rfl, (fun y0 => (hJ194.2.1 y0).call hst), (fun y0 => absurd (show D188 10 = true from y0) (by rw [(not_yet hD191 (fun hm => (hC193 10 9 hm (by kernel_rfl))))]; decide))⟩)
                · rintro D198 ρ199 w200 hD201 hE202 hC203 hJ204 hA205 ⟨f10, f63, _⟩
                  obtain ⟨g206, e207, hh208⟩ := hA205 9 10 (hE202 9 (by kernel_rfl)) rfl
                  have hst : St w0 w200 [.blk g206 26 #[(.int .i64 0), (.int .i64 0), (.int .i64 0), (.int .i64 0), (.int .i64 0), (.int .i64 0), (.int .i64 0)], .blk g20 26 #[(.int .i64 a.From), (.int .i64 a.Count), (.int .i64 a.Sum), (.int .i64 a.Min), (.int .i64 a.Max), (.int .i64 a.First), (.int .i64 a.Last)], rowT 26 aggE vo out] := hh208.1 hD201
                  refine go_plain (op_storeAll hst 0 rfl Try.sizeOf26 e207 f63 rfl rfl (by simp [Value.oneCell']) (fun w209 hst => ?_))
                  replace hst : St w0 w209 [.blk g206 26 #[(.int .i64 (((joinA a (l[n]'(by omega))).1).From)), (.int .i64 (((joinA a (l[n]'(by omega))).1).Count)), (.int .i64 (((joinA a (l[n]'(by omega))).1).Sum)), (.int .i64 (((joinA a (l[n]'(by omega))).1).Min)), (.int .i64 (((joinA a (l[n]'(by omega))).1).Max)), (.int .i64 (((joinA a (l[n]'(by omega))).1).First)), (.int .i64 (((joinA a (l[n]'(by omega))).1).Last))], .blk g20 26 #[(.int .i64 a.From), (.int .i64 a.Count), (.int .i64 a.Sum), (.int .i64 a.Min), (.int .i64 a.Max), (.int .i64 a.First), (.int .i64 a.Last)], rowT 26 aggE vo out] := hst
                  have hI210 : stabIXs 10 [9] D198 0 [(kEq (.agg #[(.int .i64 a.From), (.int .i64 a.Count), (.int .i64 a.Sum), (.int .i64 a.Min), (.int .i64 a.Max), (.int .i64 a.First), (.int .i64 a.Last)])), (kEq v_l), (kEq (.int .i64 (n : Int))), (kPt0 w0 [(.int .i64 ((l[n]'(by omega)).From)), (.int .i64 ((l[n]'(by omega)).Count)), (.int .i64 ((l[n]'(by omega)).Sum)), (.int .i64 ((l[n]'(by omega)).Min)), (.int .i64 ((l[n]'(by omega)).Max)), (.int .i64 ((l[n]'(by omega)).First)), (.int .i64 ((l[n]'(by omega)).Last))]), (kEq (.agg #[(.int .i64 ((l[n]'(by omega)).From)), (.int .i64 ((l[n]'(by omega)).Count)), (.int .i64 ((l[n]'(by omega)).Sum)), (.int .i64 ((l[n]'(by omega)).Min)), (.int .i64 ((l[n]'(by omega)).Max)), (.int .i64 ((l[n]'(by omega)).First)), (.int .i64 ((l[n]'(by omega)).Last))])), (kEq (.tuple #[(.agg #[(.int .i64 (((joinA a (l[n]'(by omega))).1).From)), (.int .i64 (((joinA a (l[n]'(by omega))).1).Count)), (.int .i64 (((joinA a (l[n]'(by omega))).1).Sum)), (.int .i64 (((joinA a (l[n]'(by omega))).1).Min)), (.int .i64 (((joinA a (l[n]'(by omega))).1).Max)), (.int .i64 (((joinA a (l[n]'(by omega))).1).First)), (.int .i64 (((joinA a (l[n]'(by omega))).1).Last))]), (.int .i64 ((joinA a (l[n]'(by omega))).2))])), (kEq (.tuple #[(.agg #[(.int .i64 (((joinA a (l[n]'(by omega))).1).From)), (.int .i64 (((joinA a (l[n]'(by omega))).1).Count)), (.int .i64 (((joinA a (l[n]'(by omega))).1).Sum)), (.int .i64 (((joinA a (l[n]'(by omega))).1).Min)), (.int .i64 (((joinA a (l[n]'(by omega))).1).Max)), (.int .i64 (((joinA a (l[n]'(by omega))).1).First)), (.int .i64 (((joinA a (l[n]'(by omega))).1).Last))]), (.int .i64 ((joinA a (l[n]'(by omega))).2))])), (kEq (.agg #[(.int .i64 (((joinA a (l[n]'(by omega))).1).From)), (.int .i64 (((joinA a (l[n]'(by omega))).1).Count)), (.int .i64 (((joinA a (l[n]'(by omega))).1).Sum)), (.int .i64 (((joinA a (l[n]'(by omega))).1).Min)), (.int .i64 (((joinA a (l[n]'(by omega))).1).Max)), (.int .i64 (((joinA a (l[n]'(by omega))).1).First)), (.int .i64 (((joinA a (l[n]'(by omega))).1).Last))])), (kEq (.int .i64 ((joinA a (l[n]'(by omega))).2))), (fun (D : Nat → Bool) (v : Value) (w : World) => ∃ g103 : Nat, v = .pointer (some ⟨g103, 0, none⟩) ∧ (D 10 = false → St w0 w [.blk g103 26 #[(.int .i64 0), (.int .i64 0), (.int .i64 0), (.int .i64 0), (.int .i64 0), (.int .i64 0), (.int .i64 0)], .blk g20 26 #[(.int .i64 a.From), (.int .i64 a.Count), (.int .i64 a.Sum), (.int .i64 a.Min), (.int .i64 a.Max), (.int .i64 a.First), (.int .i64 a.Last)], rowT 26 aggE vo out]) ∧ (D 10 = true → St w0 w [.blk g103 26 #[(.int .i64 (((joinA a (l[n]'(by omega))).1).From)), (.int .i64 (((joinA a (l[n]'(by omega))).1).Count)), (.int .i64 (((joinA a (l[n]'(by omega))).1).Sum)), (.int .i64 (((joinA a (l[n]'(by omega))).1).Min)), (.int .i64 (((joinA a (l[n]'(by omega))).1).Max)), (.int .i64 (((joinA a (l[n]'(by omega))).1).First)), (.int .i64 (((joinA a (l[n]'(by omega))).1).Last))], .blk g20 26 #[(.int .i64 a.From), (.int .i64 a.Count), (.int .i64 a.Sum), (.int .i64 a.Min), (.int .i64 a.Max), (.int .i64 a.First), (.int .i64 a.Last)], rowT 26 aggE vo out])), kAny, (kEq (.int .i64 ((joinA a (l[n]'(by omega))).2)))] := ⟨Or.inr (Or.inr (Or.inr iEq)), Or.inr (Or.inr (Or.inr iEq)), Or.inr (Or.inr (Or.inr iEq)), Or.inr (Or.inr (Or.inr iPt0)), Or.inr (Or.inr (Or.inr iEq)), Or.inr (Or.inr (Or.inr iEq)), Or.inr (Or.inr (Or.inr iEq)), Or.inr (Or.inr (Or.inr iEq)), Or.inr (Or.inr (Or.inr iEq)), Or.inr (Or.inl (by decide)), Or.inl rfl, Or.inr (Or.inr (Or.inl (not_yet hD201 (fun hm => (hC203 11 10 hm (by kernel_rfl)))))), trivial⟩
                  refine ⟨by exact ⟨hst.sub (.cons _ (.cons_cons _ (.cons_cons _ .slnil))), (fun y0 => absurd y0 (fun h => Bool.noConfusion h)), (fun y0 => hst.sub (.cons _ (.cons_cons _ (.cons_cons _ .slnil))))⟩, by exact trivial, kX [9] hI210 ?_⟩
                  intro j d hj hjd hDj h
                  simp only [List.mem_cons, List.not_mem_nil, or_false] at hj
                  subst hj
                  obtain rfl : 10 = d := Option.some.inj hjd
                  exact ⟨_, e207, (fun y0 => absurd y0 (fun h => Bool.noConfusion h)), (fun y0 => hst.sub (.cons_cons _ (.cons_cons _ (.cons_cons _ .slnil))))⟩
                · rintro D211 ρ212 w213 hD214 hE215 hC216 hJ217 hA218 ⟨f64, _⟩
                  have hst := hJ217.2.2 (hE215 10 (by kernel_rfl))
                  replace hst : St w0 w213 [.blk g20 26 #[(.int .i64 a.From), (.int .i64 a.Count), (.int .i64 a.Sum), (.int .i64 a.Min), (.int .i64 a.Max), (.int .i64 a.First), (.int .i64 a.Last)], rowT 26 aggE vo out] := hst
                  exact go_plain (op_assign (.int .i64 ((joinA a (l[n]'(by omega))).2)) f64 (kN0 (i := 11) hM106 (by decide) (by exact hJ217) (by exact rfl)))
                · intro ρ219 w220 Dw220 hallw220 hJw220 hRw220 hkw220
                  obtain ⟨g221, uw220_10, hhw220⟩ := hRw220 9 10 rfl
                  have hst : St w0 w220 [.blk g221 26 #[(.int .i64 (((joinA a (l[n]'(by omega))).1).From)), (.int .i64 (((joinA a (l[n]'(by omega))).1).Count)), (.int .i64 (((joinA a (l[n]'(by omega))).1).Sum)), (.int .i64 (((joinA a (l[n]'(by omega))).1).Min)), (.int .i64 (((joinA a (l[n]'(by omega))).1).Max)), (.int .i64 (((joinA a (l[n]'(by omega))).1).First)), (.int .i64 (((joinA a (l[n]'(by omega))).1).Last))], .blk g20 26 #[(.int .i64 a.From), (.int .i64 a.Count), (.int .i64 a.Sum), (.int .i64 a.Min), (.int .i64 a.Max), (.int .i64 a.First), (.int .i64 a.Last)], rowT 26 aggE vo out] := hhw220.2 (hallw220 10 (show 10 < 12 from by decide))
                  have uw220_0 : ρ219 0 = v_l := (hkw220 0 rfl).trans uw96_0
                  have uw220_1 : ρ219 1 = (.int .i64 k) := (hkw220 1 rfl).trans uw96_1
                  have uw220_12 : ρ219 12 = (.int .i64 k) := (hkw220 12 rfl).trans uw96_12
                  have uw220_13 : ρ219 13 = (.bool (decide (k < 2))) := (hkw220 13 rfl).trans uw96_13
                  have uw220_14 : ρ219 14 = (.bool (decide (k < 2))) := (hkw220 14 rfl).trans uw96_14
                  have uw220_15 : ρ219 15 = (.int .i64 k) := (hkw220 15 rfl).trans uw96_15
                  have uw220_16 : ρ219 16 = (.bool (decide (3 < k))) := (hkw220 16 rfl).trans uw96_16
                  have uw220_17 : ρ219 17 = (.bool (decide (3 < k))) := (hkw220 17 rfl).trans uw96_17
                  have uw220_18 : ρ219 18 = (.bool (decide (3 < k))) := (hkw220 18 rfl).trans uw96_18
                  have uw220_19 : ρ219 19 = v_l := (hkw220 19 rfl).trans uw96_19
                  have uw220_20 : ρ219 20 = (.int .i64 k) := (hkw220 20 rfl).trans uw96_20
                  have uw220_21 : ρ219 21 = (.int .i64 (k - 1)) := (hkw220 21 rfl).trans uw96_21
                  have uw220_22 : ρ219 22 = (.bool (alignedA l (k - 1))) := (hkw220 22 rfl).trans uw96_22
                  have uw220_23 : ρ219 23 = (.bool (!(alignedA l (k - 1)))) := (hkw220 23 rfl).trans uw96_23
                  have uw220_24 : ρ219 24 = (.bool (!(alignedA l (k - 1)))) := (hkw220 24 rfl).trans uw96_24
                  have uw220_7 : ρ219 7 = (.int .i64 (i : Int)) := (hkw220 7 rfl).trans uw96_7
                  have uw220_6 : ρ219 6 = vo := (hkw220 6 rfl).trans uw96_6
                  have uw220_25 : ρ219 25 = (.int .i64 (i : Int)) := (hkw220 25 rfl).trans uw96_25
                  have uw220_26 : ρ219 26 = v_l := (hkw220 26 rfl).trans uw96_26
                  have uw220_27 : ρ219 27 = (.int .i64 (l.length : Int)) := (hkw220 27 rfl).trans uw96_27
                  have uw220_28 : ρ219 28 = (.bool (decide ((i : Int) < (l.length : Int)))) := (hkw220 28 rfl).trans uw96_28
                  have uw220_29 : ρ219 29 = v_l := (hkw220 29 rfl).trans uw96_29
                  have uw220_30 : ρ219 30 = (.int .i64 (i : Int)) := (hkw220 30 rfl).trans uw96_30
                  have uw220_31 : ρ219 31 = (.pointer (some ⟨a17, o18, none⟩)) := (hkw220 31 rfl).trans uw96_31
                  have uw220_32 : ρ219 32 = (.agg #[(.int .i64 ((l[i]'(by omega)).From)), (.int .i64 ((l[i]'(by omega)).Count)), (.int .i64 ((l[i]'(by omega)).Sum)), (.int .i64 ((l[i]'(by omega)).Min)), (.int .i64 ((l[i]'(by omega)).Max)), (.int .i64 ((l[i]'(by omega)).First)), (.int .i64 ((l[i]'(by omega)).Last))]) := (hkw220 32 rfl).trans uw96_32
                  have uw220_8 : ρ219 8 = (.pointer (some ⟨g20, 0, none⟩)) := (hkw220 8 rfl).trans uw96_8
                  have uw220_33 : ρ219 33 = (.pointer (some ⟨g20, (0 + 0), none⟩)) := (hkw220 33 rfl).trans uw96_33
                  have uw220_34 : ρ219 34 = (.int .i64 ((l[i]'(by omega)).From)) := (hkw220 34 rfl).trans uw96_34
                  have uw220_35 : ρ219 35 = (.int .i64 k) := (hkw220 35 rfl).trans uw96_35
                  have uw220_36 : ρ219 36 = (.int .i64 (floorA ((l[i]'(by omega)).From) k)) := (hkw220 36 rfl).trans uw96_36
                  have uw220_37 : ρ219 37 = (.pointer (some ⟨g20, (0 + 0), none⟩)) := (hkw220 37 rfl).trans uw96_37
                  have uw220_38 : ρ219 38 = (.int .i64 (i : Int)) := (hkw220 38 rfl).trans uw96_38
                  have uw220_39 : ρ219 39 = (.int .i64 ((i : Int) + 1)) := (hkw220 39 rfl).trans uw96_39
                  have uw220_9 : ρ219 9 = (.int .i64 (n : Int)) := (hkw220 9 rfl).trans uw96_9
                  have uw220_55 : ρ219 55 = (.bool (decide ((floorA ((l[n]'(by omega)).From) k) = a.From))) := (hkw220 55 rfl).trans uw96_55
                  have uw220_11 : ρ219 11 = (.int .i64 ((joinA a (l[n]'(by omega))).2)) := hRw220 11 11 rfl
                  refine then_n ?_
                  refine cE_seq ?_
                  refine cE_seq ?_
                  refine cE_region rfl ?_
                  refine s_cons (op_move (.int .i64 ((joinA a (l[n]'(by omega))).2)) uw220_11 ?_)
                  refine s_cons (op_neq (k := .i64) (a := (joinA a (l[n]'(by omega))).2) (b := 0) rfl rfl ?_)
                  refine s_nil ?_
                  refine then_n ?_
                  rcases Bool.eq_false_or_eq_true (decide (((joinA a (l[n]'(by omega))).2) = 0)) with b222 | b222
                  · have c223 : ((joinA a (l[n]'(by omega))).2) = 0 := of_decide_eq_true b222
                    refine cE_cond false (congrArg Value.bool (congrArg (! ·) b222)) (fun h => by cases h) (fun _ => ?_)
                    refine cE_skip ?_
                    refine then_n ?_
                    refine cE_seq ?_
                    refine cE_region rfl ?_
                    refine s_cons (op_loadN (cs := [(.int .i64 (((joinA a (l[n]'(by omega))).1).From)), (.int .i64 (((joinA a (l[n]'(by omega))).1).Count)), (.int .i64 (((joinA a (l[n]'(by omega))).1).Sum)), (.int .i64 (((joinA a (l[n]'(by omega))).1).Min)), (.int .i64 (((joinA a (l[n]'(by omega))).1).Max)), (.int .i64 (((joinA a (l[n]'(by omega))).1).First)), (.int .i64 (((joinA a (l[n]'(by omega))).1).Last))]) Try.isAgg26 Try.sizeOf26 uw220_10 (Pt.of (hst.cell 0 rfl) rfl) rfl ?_)
                    refine s_cons0 (op_storeAll hst 1 rfl Try.sizeOf26 uw220_8 rfl rfl rfl (by simp [Value.oneCell']) (fun w224 hst => ?_))
                    replace hst : St w0 w224 [.blk g221 26 #[(.int .i64 (((joinA a (l[n]'(by omega))).1).From)), (.int .i64 (((joinA a (l[n]'(by omega))).1).Count)), (.int .i64 (((joinA a (l[n]'(by omega))).1).Sum)), (.int .i64 (((joinA a (l[n]'(by omega))).1).Min)), (.int .i64 (((joinA a (l[n]'(by omega))).1).Max)), (.int .i64 (((joinA a (l[n]'(by omega))).1).First)), (.int .i64 (((joinA a (l[n]'(by omega))).1).Last))], .blk g20 26 #[(.int .i64 (((joinA a (l[n]'(by omega))).1).From)), (.int .i64 (((joinA a (l[n]'(by omega))).1).Count)), (.int .i64 (((joinA a (l[n]'(by omega))).1).Sum)), (.int .i64 (((joinA a (l[n]'(by omega))).1).Min)), (.int .i64 (((joinA a (l[n]'(by omega))).1).Max)), (.int .i64 (((joinA a (l[n]'(by omega))).1).First)), (.int .i64 (((joinA a (l[n]'(by omega))).1).Last))], rowT 26 aggE vo out] := hst
                    refine s_nil ?_
                    refine then_n ?_
                    refine cE_region rfl ?_
                    refine s_cons (op_move (.int .i64 (n : Int)) uw220_9 ?_)
                    refine s_cons (op_add (k := .i64) (a := (n : Int)) (b := 1) ((n : Int) + 1) rfl rfl (xi64 (by omega) (by omega)) ?_)
                    refine s_cons (op_assign (.int .i64 ((n : Int) + 1)) rfl ?_)
                    refine s_nil ?_
                    refine block_n (then_n ?_)
                    exact ⟨_, ⟨((joinA a (l[n]'(by omega))).1), (n + 1), rfl, uw220_0, uw220_1, uw220_12, uw220_13, uw220_14, uw220_15, uw220_16, uw220_17, uw220_18, uw220_19, uw220_20, uw220_21, uw220_22, uw220_23, uw220_24, uw220_7, uw220_6, uw220_25, uw220_26, uw220_27, uw220_28, uw220_29, uw220_30, uw220_31, uw220_32, uw220_8, uw220_33, uw220_34, uw220_35, uw220_36, uw220_37, uw220_38, uw220_39, (congrArg (Value.int .i64) (show ((n : Int) + 1) = _ from by omega)), (hst.sub (.cons _ (.cons_cons _ (.cons_cons _ .slnil)))), (by omega), (by omega), (by first | exact hai | exact joinA_ok hao (hl _ (List.getElem_mem _))), (by first | exact hI.trans (down_fresh (by omega) hF) | exact hJ.trans (rd_join (by omega) (by assumption) (ham _ (List.getElem_mem _)) hco (by assumption)))⟩, (by simp only [id]; omega)⟩
                  · have c225 : ¬ (((joinA a (l[n]'(by omega))).2) = 0) := of_decide_eq_false b222
                    refine cE_cond true (congrArg Value.bool (congrArg (! ·) b222)) (fun _ => ?_) (fun h => by cases h)
                    refine cE_seq ?_
                    refine cE_region rfl ?_
                    refine s_cons (op_move (.int .i64 ((joinA a (l[n]'(by omega))).2)) uw220_11 ?_)
                    refine s_cons (op_assign (.slice none 0 0) rfl ?_)
                    refine s_cons (op_assign (.int .i64 ((joinA a (l[n]'(by omega))).2)) rfl ?_)
                    refine s_nil ?_
                    refine then_n ?_
                    refine cE_ret ?_
                    refine then_r (block_r (then_r (block_r (then_r (block_r (then_r (block_r (then_r ?_))))))))
                    refine post_r _ (res2 (v := (.slice none 0 0)) rfl (x := (.int .i64 ((joinA a (l[n]'(by omega))).2))) rfl) ?_
                    replace hst : St w0 w220 [rowT 26 aggE (.slice none 0 0) ([]), .blk g221 26 #[(.int .i64 (((joinA a (l[n]'(by omega))).1).From)), (.int .i64 (((joinA a (l[n]'(by omega))).1).Count)), (.int .i64 (((joinA a (l[n]'(by omega))).1).Sum)), (.int .i64 (((joinA a (l[n]'(by omega))).1).Min)), (.int .i64 (((joinA a (l[n]'(by omega))).1).Max)), (.int .i64 (((joinA a (l[n]'(by omega))).1).First)), (.int .i64 (((joinA a (l[n]'(by omega))).1).Last))], .blk g20 26 #[(.int .i64 a.From), (.int .i64 a.Count), (.int .i64 a.Sum), (.int .i64 a.Min), (.int .i64 a.Max), (.int .i64 a.First), (.int .i64 a.Last)], rowT 26 aggE vo out] := hst.nilRow 26 aggE
                    have e226 : [] = (downA l k).1 := by first | exact (congrArg Prod.fst (down_none (Or.inl (by omega)))).symm | exact (congrArg Prod.snd (down_none (Or.inl (by omega)))).symm | exact (congrArg Prod.fst (down_none (Or.inr (Or.inl (by assumption))))).symm | exact (congrArg Prod.snd (down_none (Or.inr (Or.inl (by assumption))))).symm | exact (congrArg Prod.fst (down_none (Or.inr (Or.inr (coarse_no (by omega)))))).symm | exact (congrArg Prod.snd (down_none (Or.inr (Or.inr (coarse_no (by omega)))))).symm | exact (congrArg Prod.fst (hJ.trans (rd_stop (by omega) (by assumption) (ham _ (List.getElem_mem _)) hco (by assumption)))).symm | exact (congrArg Prod.snd (hJ.trans (rd_stop (by omega) (by assumption) (ham _ (List.getElem_mem _)) hco (by assumption)))).symm | exact (congrArg Prod.fst (hI.trans (down_end (by omega)))).symm | exact (congrArg Prod.snd (hI.trans (down_end (by omega)))).symm
                    replace hst : St w0 w220 [rowT 26 aggE (.slice none 0 0) ((downA l k).1), .blk g221 26 #[(.int .i64 (((joinA a (l[n]'(by omega))).1).From)), (.int .i64 (((joinA a (l[n]'(by omega))).1).Count)), (.int .i64 (((joinA a (l[n]'(by omega))).1).Sum)), (.int .i64 (((joinA a (l[n]'(by omega))).1).Min)), (.int .i64 (((joinA a (l[n]'(by omega))).1).Max)), (.int .i64 (((joinA a (l[n]'(by omega))).1).First)), (.int .i64 (((joinA a (l[n]'(by omega))).1).Last))], .blk g20 26 #[(.int .i64 a.From), (.int .i64 a.Count), (.int .i64 a.Sum), (.int .i64 a.Min), (.int .i64 a.Max), (.int .i64 a.First), (.int .i64 a.Last)], rowT 26 aggE vo out] := by rw [congrArg (fun l => rowT 26 aggE (.slice none 0 0) l) e226] at hst; exact hst
                    exact ⟨(.slice none 0 0), (retv2 rfl (congrArg (Value.int .i64) (show (joinA a (l[n]'(by omega))).2 = (downA l k).2 from by first | exact (congrArg Prod.fst (down_none (Or.inl (by omega)))).symm | exact (congrArg Prod.snd (down_none (Or.inl (by omega)))).symm | exact (congrArg Prod.fst (down_none (Or.inr (Or.inl (by assumption))))).symm | exact (congrArg Prod.snd (down_none (Or.inr (Or.inl (by assumption))))).symm | exact (congrArg Prod.fst (down_none (Or.inr (Or.inr (coarse_no (by omega)))))).symm | exact (congrArg Prod.snd (down_none (Or.inr (Or.inr (coarse_no (by omega)))))).symm | exact (congrArg Prod.fst (hJ.trans (rd_stop (by omega) (by assumption) (ham _ (List.getElem_mem _)) hco (by assumption)))).symm | exact (congrArg Prod.snd (hJ.trans (rd_stop (by omega) (by assumption) (ham _ (List.getElem_mem _)) hco (by assumption)))).symm | exact (congrArg Prod.fst (hI.trans (down_end (by omega)))).symm | exact (congrArg Prod.snd (hI.trans (down_end (by omega)))).symm))), hst.sub (.cons_cons _ (.cons _ (.cons _ (.cons _ .slnil))))⟩
              · have c227 : ¬ ((floorA ((l[n]'(by omega)).From) k) = a.From) := of_decide_eq_false b97
                refine cE_cond false (uw96_55.trans (congrArg Value.bool b97)) (fun h => by cases h) (fun _ => ?_)
                refine cE_exit ?_
                refine then_x (then_x (block_hit (then_n ?_)))
                refine cE_seq ?_
                refine cE_region rfl ?_
                refine s_cons (op_move vo uw96_6 ?_)
                refine s_cons (op_loadN (cs := [(.int .i64 a.From), (.int .i64 a.Count), (.int .i64 a.Sum), (.int .i64 a.Min), (.int .i64 a.Max), (.int .i64 a.First), (.int .i64 a.Last)]) Try.isAgg26 Try.sizeOf26 uw96_8 (Pt.of (hst.cell 0 rfl) rfl) rfl ?_)
                refine s_cons (op_buildSlice (E := aggE) [a] hst Try.underlying41 Try.sizeOf26 Try.zeroValue26 (evp_cons (v := (.agg #[(.int .i64 a.From), (.int .i64 a.Count), (.int .i64 a.Sum), (.int .i64 a.Min), (.int .i64 a.Max), (.int .i64 a.First), (.int .i64 a.Last)])) rfl evp_nil) (parts_cons rfl parts_nil) rfl (by decide) (fun v228 w229 hst => ?_))
                replace hst : St w0 w229 [rowT 26 aggE v228 ([a]), .blk g20 26 #[(.int .i64 a.From), (.int .i64 a.Count), (.int .i64 a.Sum), (.int .i64 a.Min), (.int .i64 a.Max), (.int .i64 a.First), (.int .i64 a.Last)], rowT 26 aggE vo out] := hst
                refine s_cons (op_append (E := aggE) (xs := out) (ys := [a]) (z := (.agg #[(.int .i64 0), (.int .i64 0), (.int .i64 0), (.int .i64 0), (.int .i64 0), (.int .i64 0), (.int .i64 0)])) (bytes := 56) hst 2 rfl Try.underlying41 (by kernel_rfl) rfl rfl rfl (hst.sl 0 rfl) (by first | omega | (simp; omega) | (simp; done)) (by first | omega | (simp; omega) | (simp; done)) (fun v230 w231 hst => ?_))
                replace hst : St w0 w231 [rowT 26 aggE v228 ([a]), .blk g20 26 #[(.int .i64 a.From), (.int .i64 a.Count), (.int .i64 a.Sum), (.int .i64 a.Min), (.int .i64 a.Max), (.int .i64 a.First), (.int .i64 a.Last)], rowT 26 aggE v230 (out ++ ([a]))] := hst
                refine s_cons (op_assign v230 rfl ?_)
                refine s_nil ?_
                refine then_n ?_
                refine cE_region rfl ?_
                refine s_cons (op_move (.int .i64 (n : Int)) uw96_9 ?_)
                refine s_cons (op_assign (.int .i64 (n : Int)) rfl ?_)
                refine s_nil ?_
                refine block_n (then_n ?_)
                exact ⟨_, ⟨v230, (out ++ ([a])), n, rfl, uw96_0, uw96_1, uw96_12, uw96_13, uw96_14, uw96_15, uw96_16, uw96_17, uw96_18, uw96_19, uw96_20, uw96_21, uw96_22, uw96_23, uw96_24, rfl, rfl, (hst.sub (.cons _ (.cons _ (.cons_cons _ .slnil)))), (by omega), (by first | omega | (simp; omega) | (simp; done)), (by first | exact hJ | exact down_start (by omega) hal hco), (by first | exact fresh_nil | exact fresh_next (by first | (left; omega) | (right; exact ⟨by omega, by assumption⟩)))⟩, (by simp only [id]; omega)⟩
          · have c232 : ¬ ((n : Int) < (l.length : Int)) := of_decide_eq_false b29
            refine cE_regionL hst [[(9, none)], [(0, none)], [(41, some 1)], [(40, some 0), (42, some 2)], [(43, some 3)], [(0, none), (44, some 4)], [(9, none), (44, some 4)], [(45, some 5), (46, some 6), (44, some 4)], [(47, some 7), (44, some 4)], [(48, some 8), (44, some 4)], [(1, none), (44, some 4)], [(49, some 9), (50, some 10), (44, some 4)], [(8, none), (44, some 4)], [(52, some 12), (44, some 4)], [(51, some 11), (53, some 13), (44, some 4)], [(44, some 4), (54, some 14)]] [(rEq (.int .i64 (n : Int))), (rEq v_l), (rEq (.int .i64 (l.length : Int))), (rEq (.bool (decide ((n : Int) < (l.length : Int))))), (rEq (.bool (decide ((n : Int) < (l.length : Int))))), (rEq undef), (rEq undef), (rEq undef), (rEq undef), (rEq undef), (rEq undef), (rEq undef), (rEq undef), (rEq undef), (rEq undef), (rEq (.bool false))] (by kernel_rfl) rfl (by kernel_rfl) ⟨sEq, sEq, sEq, sEq, sEq, sEq, sEq, sEq, sEq, sEq, sEq, sEq, sEq, sEq, sEq, sEq, trivial⟩ ⟨?_, ?_, ?_, ?_, ?_, ?_, ?_, ?_, ?_, ?_, ?_, ?_, ?_, ?_, ?_, ?_, trivial⟩ ?_
            · rintro ρ233 w234 hj235 ⟨f9, _⟩
              have hst := hj235.2
              exact go_plain (op_move (.int .i64 (n : Int)) (f9.trans q25_9) (kS hj235 rfl))
            · rintro ρ236 w237 hj238 ⟨f0, _⟩
              have hst := hj238.2
              exact go_plain (op_move v_l (f0.trans q25_0) (kS hj238 rfl))
            · rintro ρ239 w240 hj241 ⟨f41, _⟩
              have hst := hj241.2
              exact go_plain (op_len (E := aggE) (xs := l) Try.underlying41 f41 h_l (kS hj241 rfl))
            · rintro ρ242 w243 hj244 ⟨f40, f42, _⟩
              have hst := hj244.2
              exact go_plain (op_lss (k := .i64) (a := (n : Int)) (b := (l.length : Int)) f40 f42 (kS hj244 rfl))
            · rintro ρ245 w246 hj247 ⟨f43, _⟩
              have hst := hj247.2
              exact go_plain (op_move (.bool (decide ((n : Int) < (l.length : Int)))) f43 (kS hj247 rfl))
            · rintro ρ248 w249 hj250 ⟨f0, f44, _⟩
              have hst := hj250.2
              exact go_no 44 rfl (f44.trans (congrArg Value.bool b29)) (kS hj250 rfl)
            · rintro ρ251 w252 hj253 ⟨f9, f44, _⟩
              have hst := hj253.2
              exact go_no 44 rfl (f44.trans (congrArg Value.bool b29)) (kS hj253 rfl)
            · rintro ρ254 w255 hj256 ⟨f45, f46, f44, _⟩
              have hst := hj256.2
              exact go_no 44 rfl (f44.trans (congrArg Value.bool b29)) (kS hj256 rfl)
            · rintro ρ257 w258 hj259 ⟨f47, f44, _⟩
              have hst := hj259.2
              exact go_no 44 rfl (f44.trans (congrArg Value.bool b29)) (kS hj259 rfl)
            · rintro ρ260 w261 hj262 ⟨f48, f44, _⟩
              have hst := hj262.2
              exact go_no 44 rfl (f44.trans (congrArg Value.bool b29)) (kS hj262 rfl)
            · rintro ρ263 w264 hj265 ⟨f1, f44, _⟩
              have hst := hj265.2
              exact go_no 44 rfl (f44.trans (congrArg Value.bool b29)) (kS hj265 rfl)
            · rintro ρ266 w267 hj268 ⟨f49, f50, f44, _⟩
              have hst := hj268.2
              exact go_no 44 rfl (f44.trans (congrArg Value.bool b29)) (kS hj268 rfl)
            · rintro ρ269 w270 hj271 ⟨f8, f44, _⟩
              have hst := hj271.2
              exact go_no 44 rfl (f44.trans (congrArg Value.bool b29)) (kS hj271 rfl)
            · rintro ρ272 w273 hj274 ⟨f52, f44, _⟩
              have hst := hj274.2
              exact go_no 44 rfl (f44.trans (congrArg Value.bool b29)) (kS hj274 rfl)
            · rintro ρ275 w276 hj277 ⟨f51, f53, f44, _⟩
              have hst := hj277.2
              exact go_no 44 rfl (f44.trans (congrArg Value.bool b29)) (kS hj277 rfl)
            · rintro ρ278 w279 hj280 ⟨f44, f54, _⟩
              have hst := hj280.2
              exact go_plain (op_pick_f (.bool false) (f44.trans (congrArg Value.bool b29)) rfl (kS hj280 rfl))
            · intro ρ281 w282 hbw282 hst hRw282 hkw282
              have uw282_0 : ρ281 0 = v_l := (hkw282 0 rfl).trans q25_0
              have uw282_1 : ρ281 1 = (.int .i64 k) := (hkw282 1 rfl).trans q25_1
              have uw282_12 : ρ281 12 = (.int .i64 k) := (hkw282 12 rfl).trans q25_12
              have uw282_13 : ρ281 13 = (.bool (decide (k < 2))) := (hkw282 13 rfl).trans q25_13
              have uw282_14 : ρ281 14 = (.bool (decide (k < 2))) := (hkw282 14 rfl).trans q25_14
              have uw282_15 : ρ281 15 = (.int .i64 k) := (hkw282 15 rfl).trans q25_15
              have uw282_16 : ρ281 16 = (.bool (decide (3 < k))) := (hkw282 16 rfl).trans q25_16
              have uw282_17 : ρ281 17 = (.bool (decide (3 < k))) := (hkw282 17 rfl).trans q25_17
              have uw282_18 : ρ281 18 = (.bool (decide (3 < k))) := (hkw282 18 rfl).trans q25_18
              have uw282_19 : ρ281 19 = v_l := (hkw282 19 rfl).trans q25_19
              have uw282_20 : ρ281 20 = (.int .i64 k) := (hkw282 20 rfl).trans q25_20
              have uw282_21 : ρ281 21 = (.int .i64 (k - 1)) := (hkw282 21 rfl).trans q25_21
              have uw282_22 : ρ281 22 = (.bool (alignedA l (k - 1))) := (hkw282 22 rfl).trans q25_22
              have uw282_23 : ρ281 23 = (.bool (!(alignedA l (k - 1)))) := (hkw282 23 rfl).trans q25_23
              have uw282_24 : ρ281 24 = (.bool (!(alignedA l (k - 1)))) := (hkw282 24 rfl).trans q25_24
              have uw282_7 : ρ281 7 = (.int .i64 (i : Int)) := (hkw282 7 rfl).trans q25_7
              have uw282_6 : ρ281 6 = vo := (hkw282 6 rfl).trans q25_6
              have uw282_25 : ρ281 25 = (.int .i64 (i : Int)) := (hkw282 25 rfl).trans q25_25
              have uw282_26 : ρ281 26 = v_l := (hkw282 26 rfl).trans q25_26
              have uw282_27 : ρ281 27 = (.int .i64 (l.length : Int)) := (hkw282 27 rfl).trans q25_27
              have uw282_28 : ρ281 28 = (.bool (decide ((i : Int) < (l.length : Int)))) := (hkw282 28 rfl).trans q25_28
              have uw282_29 : ρ281 29 = v_l := (hkw282 29 rfl).trans q25_29
              have uw282_30 : ρ281 30 = (.int .i64 (i : Int)) := (hkw282 30 rfl).trans q25_30
              have uw282_31 : ρ281 31 = (.pointer (some ⟨a17, o18, none⟩)) := (hkw282 31 rfl).trans q25_31
              have uw282_32 : ρ281 32 = (.agg #[(.int .i64 ((l[i]'(by omega)).From)), (.int .i64 ((l[i]'(by omega)).Count)), (.int .i64 ((l[i]'(by omega)).Sum)), (.int .i64 ((l[i]'(by omega)).Min)), (.int .i64 ((l[i]'(by omega)).Max)), (.int .i64 ((l[i]'(by omega)).First)), (.int .i64 ((l[i]'(by omega)).Last))]) := (hkw282 32 rfl).trans q25_32
              have uw282_8 : ρ281 8 = (.pointer (some ⟨g20, 0, none⟩)) := (hkw282 8 rfl).trans q25_8
              have uw282_33 : ρ281 33 = (.pointer (some ⟨g20, (0 + 0), none⟩)) := (hkw282 33 rfl).trans q25_33
              have uw282_34 : ρ281 34 = (.int .i64 ((l[i]'(by omega)).From)) := (hkw282 34 rfl).trans q25_34
              have uw282_35 : ρ281 35 = (.int .i64 k) := (hkw282 35 rfl).trans q25_35
              have uw282_36 : ρ281 36 = (.int .i64 (floorA ((l[i]'(by omega)).From) k)) := (hkw282 36 rfl).trans q25_36
              have uw282_37 : ρ281 37 = (.pointer (some ⟨g20, (0 + 0), none⟩)) := (hkw282 37 rfl).trans q25_37
              have uw282_38 : ρ281 38 = (.int .i64 (i : Int)) := (hkw282 38 rfl).trans q25_38
              have uw282_39 : ρ281 39 = (.int .i64 ((i : Int) + 1)) := (hkw282 39 rfl).trans q25_39
              have uw282_9 : ρ281 9 = (.int .i64 (n : Int)) := (hkw282 9 rfl).trans q25_9
              have uw282_55 : ρ281 55 = (.bool false) := hRw282 15 55 rfl
              refine then_n ?_
              refine cE_cond false uw282_55 (fun h => by cases h) (fun _ => ?_)
              refine cE_exit ?_
              refine then_x (then_x (block_hit (then_n ?_)))
              refine cE_seq ?_
              refine cE_region rfl ?_
              refine s_cons (op_move vo uw282_6 ?_)
              refine s_cons (op_loadN (cs := [(.int .i64 a.From), (.int .i64 a.Count), (.int .i64 a.Sum), (.int .i64 a.Min), (.int .i64 a.Max), (.int .i64 a.First), (.int .i64 a.Last)]) Try.isAgg26 Try.sizeOf26 uw282_8 (Pt.of (hst.cell 0 rfl) rfl) rfl ?_)
              refine s_cons (op_buildSlice (E := aggE) [a] hst Try.underlying41 Try.sizeOf26 Try.zeroValue26 (evp_cons (v := (.agg #[(.int .i64 a.From), (.int .i64 a.Count), (.int .i64 a.Sum), (.int .i64 a.Min), (.int .i64 a.Max), (.int .i64 a.First), (.int .i64 a.Last)])) rfl evp_nil) (parts_cons rfl parts_nil) rfl (by decide) (fun v283 w284 hst => ?_))
              replace hst : St w0 w284 [rowT 26 aggE v283 ([a]), .blk g20 26 #[(.int .i64 a.From), (.int .i64 a.Count), (.int .i64 a.Sum), (.int .i64 a.Min), (.int .i64 a.Max), (.int .i64 a.First), (.int .i64 a.Last)], rowT 26 aggE vo out] := hst
              refine s_cons (op_append (E := aggE) (xs := out) (ys := [a]) (z := (.agg #[(.int .i64 0), (.int .i64 0), (.int .i64 0), (.int .i64 0), (.int .i64 0), (.int .i64 0), (.int .i64 0)])) (bytes := 56) hst 2 rfl Try.underlying41 (by kernel_rfl) rfl rfl rfl (hst.sl 0 rfl) (by first | omega | (simp; omega) | (simp; done)) (by first | omega | (simp; omega) | (simp; done)) (fun v285 w286 hst => ?_))
              replace hst : St w0 w286 [rowT 26 aggE v283 ([a]), .blk g20 26 #[(.int .i64 a.From), (.int .i64 a.Count), (.int .i64 a.Sum), (.int .i64 a.Min), (.int .i64 a.Max), (.int .i64 a.First), (.int .i64 a.Last)], rowT 26 aggE v285 (out ++ ([a]))] := hst
              refine s_cons (op_assign v285 rfl ?_)
              refine s_nil ?_
              refine then_n ?_
              refine cE_region rfl ?_
              refine s_cons (op_move (.int .i64 (n : Int)) uw282_9 ?_)
              refine s_cons (op_assign (.int .i64 (n : Int)) rfl ?_)
              refine s_nil ?_
              refine block_n (then_n ?_)
              exact ⟨_, ⟨v285, (out ++ ([a])), n, rfl, uw282_0, uw282_1, uw282_12, uw282_13, uw282_14, uw282_15, uw282_16, uw282_17, uw282_18, uw282_19, uw282_20, uw282_21, uw282_22, uw282_23, uw282_24, rfl, rfl, (hst.sub (.cons _ (.cons _ (.cons_cons _ .slnil)))), (by omega), (by first | omega | (simp; omega) | (simp; done)), (by first | exact hJ | exact down_start (by omega) hal hco), (by first | exact fresh_nil | exact fresh_next (by first | (left; omega) | (right; exact ⟨by omega, by assumption⟩)))⟩, (by simp only [id]; omega)⟩
        · have c287 : ¬ ((i : Int) < (l.length : Int)) := of_decide_eq_false b15
          refine cE_cond false (congrArg Value.bool b15) (fun h => by cases h) (fun _ => ?_)
          refine cE_exit ?_
          refine then_x (then_x (block_hit (then_n ?_)))
          refine cE_seq ?_
          refine cE_region rfl ?_
          refine s_cons (op_move vo q11_6 ?_)
          refine s_cons (op_assign vo rfl ?_)
          refine s_cons (op_assign (.int .i64 0) rfl ?_)
          refine s_nil ?_
          refine then_n ?_
          refine cE_ret ?_
          refine post_r _ (res2 (v := vo) rfl (x := (.int .i64 0)) rfl) ?_
          have e288 : out = (downA l k).1 := by first | exact (congrArg Prod.fst (down_none (Or.inl (by omega)))).symm | exact (congrArg Prod.snd (down_none (Or.inl (by omega)))).symm | exact (congrArg Prod.fst (down_none (Or.inr (Or.inl (by assumption))))).symm | exact (congrArg Prod.snd (down_none (Or.inr (Or.inl (by assumption))))).symm | exact (congrArg Prod.fst (down_none (Or.inr (Or.inr (coarse_no (by omega)))))).symm | exact (congrArg Prod.snd (down_none (Or.inr (Or.inr (coarse_no (by omega)))))).symm | exact (congrArg Prod.fst (hJ.trans (rd_stop (by omega) (by assumption) (ham _ (List.getElem_mem _)) hco (by assumption)))).symm | exact (congrArg Prod.snd (hJ.trans (rd_stop (by omega) (by assumption) (ham _ (List.getElem_mem _)) hco (by assumption)))).symm | exact (congrArg Prod.fst (hI.trans (down_end (by omega)))).symm | exact (congrArg Prod.snd (hI.trans (down_end (by omega)))).symm
          replace hst : St w0 w14 [rowT 26 aggE vo ((downA l k).1)] := by rw [congrArg (fun l => rowT 26 aggE vo l) e288] at hst; exact hst
          exact ⟨vo, (retv2 rfl (congrArg (Value.int .i64) (show 0 = (downA l k).2 from by first | exact (congrArg Prod.fst (down_none (Or.inl (by omega)))).symm | exact (congrArg Prod.snd (down_none (Or.inl (by omega)))).symm | exact (congrArg Prod.fst (down_none (Or.inr (Or.inl (by assumption))))).symm | exact (congrArg Prod.snd (down_none (Or.inr (Or.inl (by assumption))))).symm | exact (congrArg Prod.fst (down_none (Or.inr (Or.inr (coarse_no (by omega)))))).symm | exact (congrArg Prod.snd (down_none (Or.inr (Or.inr (coarse_no (by omega)))))).symm | exact (congrArg Prod.fst (hJ.trans (rd_stop (by omega) (by assumption) (ham _ (List.getElem_mem _)) hco (by assumption)))).symm | exact (congrArg Prod.snd (hJ.trans (rd_stop (by omega) (by assumption) (ham _ (List.getElem_mem _)) hco (by assumption)))).symm | exact (congrArg Prod.fst (hI.trans (down_end (by omega)))).symm | exact (congrArg Prod.snd (hI.trans (down_end (by omega)))).symm))), hst.sub (.cons_cons _ .slnil)⟩
      · refine cE_cond true (congrArg Value.bool (congrArg (! ·) b10)) (fun _ => ?_) (fun h => by cases h)
        refine cE_seq ?_
        refine cE_region rfl ?_
        refine s_cons (op_assign (.slice none 0 0) rfl ?_)
        refine s_cons (op_assign (.int .i64 1) rfl ?_)
        refine s_nil ?_
        refine then_n ?_
        refine cE_ret ?_
        refine then_r ?_
        refine post_r _ (res2 (v := (.slice none 0 0)) rfl (x := (.int .i64 1)) rfl) ?_
        replace hst : St w0 w9 [rowT 26 aggE (.slice none 0 0) ([])] := hst.nilRow 26 aggE
        have e289 : [] = (downA l k).1 := by first | exact (congrArg Prod.fst (down_none (Or.inl (by omega)))).symm | exact (congrArg Prod.snd (down_none (Or.inl (by omega)))).symm | exact (congrArg Prod.fst (down_none (Or.inr (Or.inl (by assumption))))).symm | exact (congrArg Prod.snd (down_none (Or.inr (Or.inl (by assumption))))).symm | exact (congrArg Prod.fst (down_none (Or.inr (Or.inr (coarse_no (by omega)))))).symm | exact (congrArg Prod.snd (down_none (Or.inr (Or.inr (coarse_no (by omega)))))).symm | exact (congrArg Prod.fst (hJ.trans (rd_stop (by omega) (by assumption) (ham _ (List.getElem_mem _)) hco (by assumption)))).symm | exact (congrArg Prod.snd (hJ.trans (rd_stop (by omega) (by assumption) (ham _ (List.getElem_mem _)) hco (by assumption)))).symm | exact (congrArg Prod.fst (hI.trans (down_end (by omega)))).symm | exact (congrArg Prod.snd (hI.trans (down_end (by omega)))).symm
        replace hst : St w0 w9 [rowT 26 aggE (.slice none 0 0) ((downA l k).1)] := by rw [congrArg (fun l => rowT 26 aggE (.slice none 0 0) l) e289] at hst; exact hst
        exact ⟨(.slice none 0 0), (retv2 rfl (congrArg (Value.int .i64) (show 1 = (downA l k).2 from by first | exact (congrArg Prod.fst (down_none (Or.inl (by omega)))).symm | exact (congrArg Prod.snd (down_none (Or.inl (by omega)))).symm | exact (congrArg Prod.fst (down_none (Or.inr (Or.inl (by assumption))))).symm | exact (congrArg Prod.snd (down_none (Or.inr (Or.inl (by assumption))))).symm | exact (congrArg Prod.fst (down_none (Or.inr (Or.inr (coarse_no (by omega)))))).symm | exact (congrArg Prod.snd (down_none (Or.inr (Or.inr (coarse_no (by omega)))))).symm | exact (congrArg Prod.fst (hJ.trans (rd_stop (by omega) (by assumption) (ham _ (List.getElem_mem _)) hco (by assumption)))).symm | exact (congrArg Prod.snd (hJ.trans (rd_stop (by omega) (by assumption) (ham _ (List.getElem_mem _)) hco (by assumption)))).symm | exact (congrArg Prod.fst (hI.trans (down_end (by omega)))).symm | exact (congrArg Prod.snd (hI.trans (down_end (by omega)))).symm))), hst.sub (.cons_cons _ .slnil)⟩

end Go.Proofs.Ytffnhcioponbbaa
