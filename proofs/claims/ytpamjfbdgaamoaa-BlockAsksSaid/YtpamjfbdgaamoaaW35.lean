/- twinkeepref5.C).aggs -/
import Derived.Test.YtpamjfbdgaamoaaW33
namespace Go.Proofs.Ytpamjfbdgaamoaa
open Go.RowKit

section
attribute [local irreducible] get rbad zag rnum rto widthA
set_option maxHeartbeats 16000000 in
theorem c_cAggs {w0 w : World} {L : List Item} (g_c : Nat) (b : List UInt8) (at_ : Int) (bad : Bool) (k : Int) (hl : b.length ≤ 1000000000) (ha : at_ = 0) (hb : bad = false) (k0 : 1 ≤ k) (k1 : k ≤ 3) (hst : St w0 w (.blk g_c 66 #[(.string (str b)), (.int .i64 at_), (.bool bad)] :: L)) :
    Calls Try.prog 37 #[(.pointer (some ⟨g_c, 0, none⟩)), (.int .i64 k)] w fun e w' => ∃ (r : Value), ∃ (out : List Agg), ∃ (p1 : Int), ∃ (bd : Bool), e = .returned r ∧ St w0 w' (rowT 71 aggE r out :: .blk g_c 66 #[(.string (str b)), (.int .i64 p1), (.bool bd)] :: L) ∧ RD b k out bd := by
  refine calls_E (n := 117) (ts := [4]) Try.func37 rfl rfl rfl (by simp) ?_
  refine cE_seq ?_
  refine cE_region rfl ?_
  refine s_cons (op_assign (.slice none 0 0) rfl ?_)
  refine s_nil ?_
  refine then_n ?_
  refine cE_seq ?_
  refine cE_region rfl ?_
  refine s_cons (op_move (.pointer (some ⟨g_c, 0, none⟩)) rfl ?_)
  refine s_cons (op_call Try.call41 (evs_cons (v := (.pointer (some ⟨g_c, 0, none⟩))) rfl evs_nil) (c_cNumE (g_c := g_c) (b := b) (at_ := at_) (bad := bad) (hl := hl) (hst := hst)) ?_)
  rintro _ w7 ⟨r1, r2, r3, rfl, hcall, x4, x5, x6⟩
  refine ⟨_, rfl, ?_⟩
  have hst : St w0 w7 (.blk g_c 66 #[(.string (str b)), (.int .i64 r2), (.bool r3)] :: L) := hcall
  refine s_cons (op_assign (.int .u64 r1) rfl ?_)
  refine s_nil ?_
  refine then_n ?_
  refine cE_seq ?_
  refine cE_seq ?_
  refine cE_region rfl ?_
  refine s_cons (op_move (.int .u64 r1) rfl ?_)
  refine s_cons (op_gtr (k := .u64) (a := r1) (b := 64) rfl rfl ?_)
  refine s_nil ?_
  refine then_n ?_
  rcases Bool.eq_false_or_eq_true (decide (64 < r1)) with b8 | b8
  · have c9 : 64 < r1 := of_decide_eq_true b8
    refine cE_cond true (congrArg Value.bool b8) (fun _ => ?_) (fun h => by cases h)
    refine cE_region rfl ?_
    refine s_cons (op_move (.pointer (some ⟨g_c, 0, none⟩)) rfl ?_)
    refine s_cons (op_nilCheck rfl ?_)
    refine s_cons (op_fieldAddr (s := 0) Try.underlying66 rfl rfl Try.sizeOf4 rfl ?_)
    refine s_cons0 (op_store1 hst 0 rfl Try.sizeOf4 rfl rfl rfl (show 2 < 3 from by decide) (fun w10 hst => ?_))
    replace hst : St w0 w10 (.blk g_c 66 #[(.string (str b)), (.int .i64 r2), (.bool true)] :: L) := hst
    refine s_nil ?_
    refine then_n ?_
    refine cE_seq ?_
    refine cE_region rfl ?_
    refine s_cons (op_assign (.slice none 0 0) rfl ?_)
    refine s_nil ?_
    refine then_n ?_
    refine cE_seq ?_
    refine cE_region rfl ?_
    refine s_cons (op_move (.int .i64 k) rfl ?_)
    refine s_cons (op_call Try.call36 (evs_cons (v := (.int .i64 k)) rfl evs_nil) (c_rWidth (w0 := w10) (k := k) (k0 := (by omega)) (k1 := (by omega))) ?_)
    rintro _ w11 ⟨rfl, hcall⟩
    refine ⟨_, rfl, ?_⟩
    have hst : St w0 w11 (.blk g_c 66 #[(.string (str b)), (.int .i64 r2), (.bool true)] :: L) := hst.call hcall
    refine s_cons (op_conv (k := .i64) (a := (widthA k)) ((widthA k) % 18446744073709551616) Try.underlying54 (by rw [Try.underlying2]; rfl) rfl (IntKind.wrap_u64 _) ?_)
    refine s_cons (op_assign (.int .u64 ((widthA k) % 18446744073709551616)) rfl ?_)
    refine s_nil ?_
    refine then_n ?_
    refine cE_seq ?_
    refine cE_seq ?_
    have hnr0 := rnE (n := r1) (by assumption)
    have hwr := width_r k
    have hwp := width_pos (coarse_yes (k := k) (by omega) (by omega))
    refine cE_region rfl ?_
    refine s_cons (op_assign (.int .i64 0) rfl ?_)
    refine s_nil ?_
    refine then_n ?_
    refine cE_block ?_
    refine cE_loop (fun (m : Nat) (ρ : Env) (w : World) => m = 0 ∧ ρ 0 = (.pointer (some ⟨g_c, 0, none⟩)) ∧ ρ 1 = (.int .i64 k) ∧ ρ 4 = (.slice none 0 0) ∧ ρ 5 = (.int .u64 r1) ∧ ρ 7 = (.int .u64 ((widthA k) % 18446744073709551616)) ∧ ρ 6 = (.slice none 0 0) ∧ ρ 8 = (.int .i64 0) ∧ St w0 w (.blk g_c 66 #[(.string (str b)), (.int .i64 r2), (.bool true)] :: L)) id _ ⟨rfl, rfl, rfl, rfl, rfl, rfl, rfl, rfl, hst⟩ ?_
    rintro m13 ρ14 w15 ⟨hm13, q12_0, q12_1, q12_4, q12_5, q12_7, q12_6, q12_8, hst⟩
    refine cE_seq ?_
    refine cE_seq ?_
    refine cE_region rfl ?_
    refine s_cons (op_move (.int .i64 0) q12_8 ?_)
    refine s_cons (op_move (.int .u64 r1) q12_5 ?_)
    refine s_cons (op_conv (k := .u64) (a := r1) (wr (r1)) Try.underlying3 (by rw [Try.underlying54]; rfl) rfl rfl ?_)
    refine s_cons (op_lss (k := .i64) (a := 0) (b := (wr (r1))) rfl rfl ?_)
    refine s_cons (op_move (.bool (decide (0 < (wr (r1))))) rfl ?_)
    rcases Bool.eq_false_or_eq_true (decide (0 < (wr (r1)))) with b16 | b16
    · have c17 : 0 < (wr (r1)) := of_decide_eq_true b16
      refine s_yes 25 rfl (congrArg Value.bool b16) (op_move (.pointer (some ⟨g_c, 0, none⟩)) q12_0 ?_)
      refine s_yes 25 rfl (congrArg Value.bool b16) (op_nilCheck rfl ?_)
      refine s_yes 25 rfl (congrArg Value.bool b16) (op_fieldAddr (s := 0) Try.underlying66 rfl rfl Try.sizeOf4 rfl ?_)
      refine s_yes 25 rfl (congrArg Value.bool b16) (op_load1 (u := (.bool true)) Try.isAgg4 rfl ((hst.cell 0 rfl).drop 2) ?_)
      refine s_yes 25 rfl (congrArg Value.bool b16) (op_not (b := true) rfl ?_)
      refine s_cons (op_pick_t (.bool (!true)) (congrArg Value.bool b16) rfl ?_)
      refine s_nil ?_
      refine then_n ?_
      refine cE_cond false (congrArg Value.bool (congrArg (! ·) rfl)) (fun h => by cases h) (fun _ => ?_)
      refine cE_exit ?_
      refine then_x (then_x (block_hit (then_n ?_)))
      refine cE_seq ?_
      refine cE_region rfl ?_
      refine s_cons (op_move (.slice none 0 0) q12_6 ?_)
      refine s_cons (op_assign (.slice none 0 0) rfl ?_)
      refine s_nil ?_
      refine then_n ?_
      refine cE_ret ?_
      refine post_r _ (res1 (v := (.slice none 0 0)) rfl) ?_
      have hd := RD_end (RA_start2E (k := k) (x := true) ha hb (by assumption) (by assumption) (by omega)) (Or.inl rfl)
      replace hst : St w0 w15 (rowT 71 aggE (.slice none 0 0) ([]) :: .blk g_c 66 #[(.string (str b)), (.int .i64 r2), (.bool true)] :: L) := hst.nilRow 71 aggE
      exact ⟨(.slice none 0 0), [], r2, true, rfl, hst.sub (.cons_cons _ (.cons_cons _ (List.Sublist.refl _))), hd⟩
    have c18 : ¬ (0 < (wr (r1))) := of_decide_eq_false b16
    refine s_no 25 rfl (congrArg Value.bool b16) ?_
    refine s_no 25 rfl (congrArg Value.bool b16) ?_
    refine s_no 25 rfl (congrArg Value.bool b16) ?_
    refine s_no 25 rfl (congrArg Value.bool b16) ?_
    refine s_no 25 rfl (congrArg Value.bool b16) ?_
    refine s_cons (op_pick_f (.bool false) (congrArg Value.bool b16) rfl ?_)
    refine s_nil ?_
    refine then_n ?_
    refine cE_cond false rfl (fun h => by cases h) (fun _ => ?_)
    refine cE_exit ?_
    refine then_x (then_x (block_hit (then_n ?_)))
    refine cE_seq ?_
    refine cE_region rfl ?_
    refine s_cons (op_move (.slice none 0 0) q12_6 ?_)
    refine s_cons (op_assign (.slice none 0 0) rfl ?_)
    refine s_nil ?_
    refine then_n ?_
    refine cE_ret ?_
    refine post_r _ (res1 (v := (.slice none 0 0)) rfl) ?_
    have hd := RD_end (RA_start2E (k := k) (x := true) ha hb (by assumption) (by assumption) (by omega)) (Or.inl rfl)
    replace hst : St w0 w15 (rowT 71 aggE (.slice none 0 0) ([]) :: .blk g_c 66 #[(.string (str b)), (.int .i64 r2), (.bool true)] :: L) := hst.nilRow 71 aggE
    exact ⟨(.slice none 0 0), [], r2, true, rfl, hst.sub (.cons_cons _ (.cons_cons _ (List.Sublist.refl _))), hd⟩
  have c19 : ¬ (64 < r1) := of_decide_eq_false b8
  refine cE_cond false (congrArg Value.bool b8) (fun h => by cases h) (fun _ => ?_)
  refine cE_skip ?_
  refine then_n ?_
  refine cE_seq ?_
  refine cE_region rfl ?_
  refine s_cons (op_assign (.slice none 0 0) rfl ?_)
  refine s_nil ?_
  refine then_n ?_
  refine cE_seq ?_
  refine cE_region rfl ?_
  refine s_cons (op_move (.int .i64 k) rfl ?_)
  refine s_cons (op_call Try.call36 (evs_cons (v := (.int .i64 k)) rfl evs_nil) (c_rWidth (w0 := w7) (k := k) (k0 := (by omega)) (k1 := (by omega))) ?_)
  rintro _ w20 ⟨rfl, hcall⟩
  refine ⟨_, rfl, ?_⟩
  have hst : St w0 w20 (.blk g_c 66 #[(.string (str b)), (.int .i64 r2), (.bool r3)] :: L) := hst.call hcall
  refine s_cons (op_conv (k := .i64) (a := (widthA k)) ((widthA k) % 18446744073709551616) Try.underlying54 (by rw [Try.underlying2]; rfl) rfl (IntKind.wrap_u64 _) ?_)
  refine s_cons (op_assign (.int .u64 ((widthA k) % 18446744073709551616)) rfl ?_)
  refine s_nil ?_
  refine then_n ?_
  refine cE_seq ?_
  refine cE_seq ?_
  have hnr0 := rnE (n := r1) (by assumption)
  have hwr := width_r k
  have hwp := width_pos (coarse_yes (k := k) (by omega) (by omega))
  refine cE_region rfl ?_
  refine s_cons (op_assign (.int .i64 0) rfl ?_)
  refine s_nil ?_
  refine then_n ?_
  refine cE_block ?_
  replace hst : St w0 w20 (rowT 71 aggE (.slice none 0 0) ([]) :: .blk g_c 66 #[(.string (str b)), (.int .i64 r2), (.bool r3)] :: L) := hst.nilRow 71 aggE
  refine cE_loop (fun (m : Nat) (ρ : Env) (w : World) => ∃ (vo : Value) (out : List Agg) (i : Nat) (p : Int) (bx : Bool), m = 65 - i ∧ ρ 0 = (.pointer (some ⟨g_c, 0, none⟩)) ∧ ρ 1 = (.int .i64 k) ∧ ρ 4 = (.slice none 0 0) ∧ ρ 5 = (.int .u64 r1) ∧ ρ 7 = (.int .u64 ((widthA k) % 18446744073709551616)) ∧ ρ 6 = vo ∧ ρ 8 = (.int .i64 (i : Int)) ∧ St w0 w (rowT 71 aggE vo out :: .blk g_c 66 #[(.string (str b)), (.int .i64 p), (.bool bx)] :: L) ∧ (RA b k r1 out i p bx) ∧ (r1 ≤ 64) ∧ ((i : Int) ≤ r1)) id _ ⟨(.slice none 0 0), [], 0, r2, r3, rfl, rfl, rfl, rfl, rfl, rfl, rfl, (congrArg (Value.int .i64) (show 0 = _ from by omega)), hst, (by first | exact RA_startE ha hb (by assumption) (by assumption) (by assumption) | exact RA_oneE hRA (by omega) (by assumption) (by assumption) (by assumption) (by assumption) (by assumption) (by assumption) (by assumption) (by assumption) (by assumption) joinQ (FW_of hGW hFe) hCe.symm (by assumption) (by omega) | exact RA_manyE hRA (by omega) (by assumption) (by assumption) (by assumption) (by assumption) (by assumption) (by assumption) (by assumption) (by assumption) (by assumption) (by first | assumption | rfl) (by first | assumption | rfl) (by first | assumption | rfl) (by first | assumption | rfl) (by first | assumption | rfl) (by first | assumption | rfl) (by first | assumption | rfl) (by first | assumption | rfl) (by first | assumption | rfl) (by first | assumption | rfl) (by first | assumption | rfl) (by first | assumption | rfl) joinQ (FW_of hGW hFe) hCe.symm (by assumption) (by assumption) (by omega)), (by omega), (by first | exact (rnE (by assumption)).1 | omega)⟩ ?_
  rintro m22 ρ23 w24 ⟨vo, out, i, p, bx, hm22, q21_0, q21_1, q21_4, q21_5, q21_7, q21_6, q21_8, hst, hRA, h64, hi⟩
  have hol := hRA.2.1
  have hnr := rnE (n := r1) (by assumption)
  refine cE_seq ?_
  refine cE_seq ?_
  refine cE_region rfl ?_
  refine s_cons (op_move (.int .i64 (i : Int)) q21_8 ?_)
  refine s_cons (op_move (.int .u64 r1) q21_5 ?_)
  refine s_cons (op_conv (k := .u64) (a := r1) (wr (r1)) Try.underlying3 (by rw [Try.underlying54]; rfl) rfl rfl ?_)
  refine s_cons (op_lss (k := .i64) (a := (i : Int)) (b := (wr (r1))) rfl rfl ?_)
  refine s_cons (op_move (.bool (decide ((i : Int) < (wr (r1))))) rfl ?_)
  rcases Bool.eq_false_or_eq_true (decide ((i : Int) < (wr (r1)))) with b25 | b25
  · have c26 : (i : Int) < (wr (r1)) := of_decide_eq_true b25
    refine s_yes 25 rfl (congrArg Value.bool b25) (op_move (.pointer (some ⟨g_c, 0, none⟩)) q21_0 ?_)
    refine s_yes 25 rfl (congrArg Value.bool b25) (op_nilCheck rfl ?_)
    refine s_yes 25 rfl (congrArg Value.bool b25) (op_fieldAddr (s := 0) Try.underlying66 rfl rfl Try.sizeOf4 rfl ?_)
    refine s_yes 25 rfl (congrArg Value.bool b25) (op_load1 (u := (.bool bx)) Try.isAgg4 rfl ((hst.cell 1 rfl).drop 2) ?_)
    refine s_yes 25 rfl (congrArg Value.bool b25) (op_not (b := bx) rfl ?_)
    refine s_cons (op_pick_t (.bool (!bx)) (congrArg Value.bool b25) rfl ?_)
    refine s_nil ?_
    refine then_n ?_
    rcases Bool.eq_false_or_eq_true bx with b27 | b27
    · refine cE_cond false (congrArg Value.bool (congrArg (! ·) b27)) (fun h => by cases h) (fun _ => ?_)
      refine cE_exit ?_
      refine then_x (then_x (block_hit (then_n ?_)))
      refine cE_seq ?_
      refine cE_region rfl ?_
      refine s_cons (op_move vo q21_6 ?_)
      refine s_cons (op_assign vo rfl ?_)
      refine s_nil ?_
      refine then_n ?_
      refine cE_ret ?_
      refine post_r _ (res1 (v := vo) rfl) ?_
      have hd := RD_end hRA (by first | exact Or.inl (by assumption) | exact Or.inr (by omega))
      exact ⟨vo, out, p, bx, rfl, hst.sub (.cons_cons _ (.cons_cons _ (List.Sublist.refl _))), hd⟩
    have hwn : wr r1 = r1 := wr_id (by simp only [i64R]; omega)
    refine cE_cond true (congrArg Value.bool (congrArg (! ·) b27)) (fun _ => ?_) (fun h => by cases h)
    refine cE_skip ?_
    refine then_n ?_
    refine cE_seq ?_
    refine cE_block ?_
    refine cE_seq ?_
    refine cE_region rfl ?_
    refine s_cons (op_move (.pointer (some ⟨g_c, 0, none⟩)) q21_0 ?_)
    replace hst : St w0 w24 (.blk g_c 66 #[(.string (str b)), (.int .i64 p), (.bool bx)] :: rowT 71 aggE vo out :: L) := hst.front 1 rfl
    refine s_cons (op_call Try.call41 (evs_cons (v := (.pointer (some ⟨g_c, 0, none⟩))) rfl evs_nil) (c_cNumE (g_c := g_c) (b := b) (at_ := p) (bad := bx) (hl := hl) (hst := hst)) ?_)
    rintro _ w34 ⟨r28, r29, r30, rfl, hcall, x31, x32, x33⟩
    refine ⟨_, rfl, ?_⟩
    have hst : St w0 w34 (.blk g_c 66 #[(.string (str b)), (.int .i64 r29), (.bool r30)] :: rowT 71 aggE vo out :: L) := hcall
    refine s_cons (op_assign (.int .u64 r28) rfl ?_)
    refine s_nil ?_
    refine then_n ?_
    refine cE_seq ?_
    refine cE_seq ?_
    refine cE_region rfl ?_
    refine s_cons (op_move (.int .u64 r28) rfl ?_)
    refine s_cons (op_gtr (k := .u64) (a := r28) (b := 1099511627776) rfl rfl ?_)
    refine s_nil ?_
    refine then_n ?_
    refine cE_join (fun (ρ : Env) (w : World) => ρ 0 = (.pointer (some ⟨g_c, 0, none⟩)) ∧ ρ 1 = (.int .i64 k) ∧ ρ 4 = (.slice none 0 0) ∧ ρ 5 = (.int .u64 r1) ∧ ρ 7 = (.int .u64 ((widthA k) % 18446744073709551616)) ∧ ρ 6 = vo ∧ ρ 8 = (.int .i64 (i : Int)) ∧ ρ 9 = (.int .u64 r28) ∧ St w0 w (.blk g_c 66 #[(.string (str b)), (.int .i64 r29), (.bool (decide (1099511627776 < r28) || r30))] :: rowT 71 aggE vo out :: L)) ?_ ?_
    · rcases Bool.eq_false_or_eq_true (decide (1099511627776 < r28)) with b35 | b35
      · have c36 : 1099511627776 < r28 := of_decide_eq_true b35
        refine cE_cond true (congrArg Value.bool b35) (fun _ => ?_) (fun h => by cases h)
        refine cE_region rfl ?_
        refine s_cons (op_move (.pointer (some ⟨g_c, 0, none⟩)) q21_0 ?_)
        refine s_cons (op_nilCheck rfl ?_)
        refine s_cons (op_fieldAddr (s := 0) Try.underlying66 rfl rfl Try.sizeOf4 rfl ?_)
        refine s_cons0 (op_store1 hst 0 rfl Try.sizeOf4 rfl rfl rfl (show 2 < 3 from by decide) (fun w37 hst => ?_))
        replace hst : St w0 w37 (.blk g_c 66 #[(.string (str b)), (.int .i64 r29), (.bool true)] :: rowT 71 aggE vo out :: L) := hst
        refine s_nil ?_
        exact ⟨rfl, q21_0, q21_1, q21_4, q21_5, q21_7, q21_6, q21_8, rfl, (by rw [show (decide (1099511627776 < r28) || r30) = true from (by rw [b35]; rfl)]; exact hst)⟩
      have c38 : ¬ (1099511627776 < r28) := of_decide_eq_false b35
      refine cE_cond false (congrArg Value.bool b35) (fun h => by cases h) (fun _ => ?_)
      refine cE_skip ?_
      exact ⟨rfl, q21_0, q21_1, q21_4, q21_5, q21_7, q21_6, q21_8, rfl, (by rw [show (decide (1099511627776 < r28) || r30) = r30 from (by rw [b35]; rfl)]; exact hst)⟩
    rintro ρ40 w41 ⟨q39_0, q39_1, q39_4, q39_5, q39_7, q39_6, q39_8, q39_9, hst⟩
    refine then_n ?_
    refine cE_seq ?_
    refine cE_seq ?_
    refine cE_region rfl ?_
    refine s_cons (op_move (.int .i64 (i : Int)) q39_8 ?_)
    refine s_cons (op_gtr (k := .i64) (a := (i : Int)) (b := 0) rfl rfl ?_)
    refine s_nil ?_
    refine then_n ?_
    refine cE_join (fun (ρ : Env) (w : World) => ∃ (X : Int), ρ 0 = (.pointer (some ⟨g_c, 0, none⟩)) ∧ ρ 1 = (.int .i64 k) ∧ ρ 4 = (.slice none 0 0) ∧ ρ 5 = (.int .u64 r1) ∧ ρ 7 = (.int .u64 ((widthA k) % 18446744073709551616)) ∧ ρ 6 = vo ∧ ρ 8 = (.int .i64 (i : Int)) ∧ ρ 9 = (.int .u64 X) ∧ St w0 w (.blk g_c 66 #[(.string (str b)), (.int .i64 r29), (.bool (decide (1099511627776 < r28) || r30))] :: rowT 71 aggE vo out :: L) ∧ (GW k out i r28 X) ∧ (0 ≤ X)) ?_ ?_
    · rcases Bool.eq_false_or_eq_true (decide (0 < (i : Int))) with b42 | b42
      · have c43 : 0 < (i : Int) := of_decide_eq_true b42
        refine cE_cond true (congrArg Value.bool b42) (fun _ => ?_) (fun h => by cases h)
        refine cE_region rfl ?_
        refine s_cons (op_move (.int .u64 r28) q39_9 ?_)
        refine s_cons (op_add (k := .u64) (a := r28) (b := 1) ((r28 + 1) % 18446744073709551616) rfl rfl (IntKind.wrap_u64 _) ?_)
        refine s_cons (op_move vo q39_6 ?_)
        refine s_cons (op_move (.int .i64 (i : Int)) q39_8 ?_)
        refine s_cons (op_sub (k := .i64) (a := (i : Int)) (b := 1) ((i : Int) - 1) rfl rfl (xi64 (by omega) (by omega)) ?_)
        refine s_cons (op_indexAddrN (E := aggE) (xs := out) (i - 1) Try.underlying23 Try.sizeOf71 rfl (hst.sl 1 rfl) rfl (by omega) (by first | omega | (simp; omega) | (simp; done)) (fun a44 o45 p46 => ?_))
        refine s_cons (op_fieldAddr (s := 0) Try.underlying71 rfl rfl Try.sizeOf2 rfl ?_)
        refine s_cons (op_load1 (u := (.int .i64 ((out[(i - 1)]'(by first | omega | (simp; omega) | (simp; done))).From))) Try.isAgg2 rfl p46 ?_)
        refine s_cons (op_conv (k := .i64) (a := (out[(i - 1)]'(by first | omega | (simp; omega) | (simp; done))).From) ((out[(i - 1)]'(by first | omega | (simp; omega) | (simp; done))).From % 18446744073709551616) Try.underlying54 (by rw [Try.underlying2]; rfl) rfl (IntKind.wrap_u64 _) ?_)
        refine s_cons (op_move (.int .u64 ((widthA k) % 18446744073709551616)) q39_7 ?_)
        refine s_cons (op_quo (k := .u64) (a := ((out[(i - 1)]'(by first | omega | (simp; omega) | (simp; done))).From % 18446744073709551616)) (b := ((widthA k) % 18446744073709551616)) (((out[(i - 1)]'(by first | omega | (simp; omega) | (simp; done))).From % 18446744073709551616) / ((widthA k) % 18446744073709551616)) rfl rfl (by omega) (quo_u (by omega) (by omega) (by omega)) ?_)
        refine s_cons (op_add (k := .u64) (a := ((r28 + 1) % 18446744073709551616)) (b := (((out[(i - 1)]'(by first | omega | (simp; omega) | (simp; done))).From % 18446744073709551616) / ((widthA k) % 18446744073709551616))) ((((r28 + 1) % 18446744073709551616) + (((out[(i - 1)]'(by first | omega | (simp; omega) | (simp; done))).From % 18446744073709551616) / ((widthA k) % 18446744073709551616))) % 18446744073709551616) rfl rfl (IntKind.wrap_u64 _) ?_)
        refine s_cons (op_assign (.int .u64 ((((r28 + 1) % 18446744073709551616) + (((out[(i - 1)]'(by first | omega | (simp; omega) | (simp; done))).From % 18446744073709551616) / ((widthA k) % 18446744073709551616))) % 18446744073709551616)) rfl ?_)
        refine s_nil ?_
        exact ⟨rfl, ((((r28 + 1) % 18446744073709551616) + (((out[(i - 1)]'(by first | omega | (simp; omega) | (simp; done))).From % 18446744073709551616) / ((widthA k) % 18446744073709551616))) % 18446744073709551616), q39_0, q39_1, q39_4, q39_5, q39_7, q39_6, q39_8, rfl, hst, (by first | exact Or.inl ⟨by omega, rfl⟩ | exact Or.inr ⟨by omega, by omega, rfl⟩), (by first | exact (rnE (by assumption)).1 | exact Int.emod_nonneg _ (by decide))⟩
      have c47 : ¬ (0 < (i : Int)) := of_decide_eq_false b42
      refine cE_cond false (congrArg Value.bool b42) (fun h => by cases h) (fun _ => ?_)
      refine cE_skip ?_
      exact ⟨rfl, r28, q39_0, q39_1, q39_4, q39_5, q39_7, q39_6, q39_8, q39_9, hst, (by first | exact Or.inl ⟨by omega, rfl⟩ | exact Or.inr ⟨by omega, by omega, rfl⟩), (by first | exact (rnE (by assumption)).1 | exact Int.emod_nonneg _ (by decide))⟩
    rintro ρ49 w50 ⟨X, q48_0, q48_1, q48_4, q48_5, q48_7, q48_6, q48_8, q48_9, hst, hGW, hX0⟩
    refine then_n ?_
    refine cE_seq ?_
    refine cE_region rfl ?_
    refine s_cons (op_move (.int .u64 X) q48_9 ?_)
    refine s_cons (op_move (.int .u64 ((widthA k) % 18446744073709551616)) q48_7 ?_)
    refine s_cons (op_mul (k := .u64) (a := X) (b := ((widthA k) % 18446744073709551616)) ((X * ((widthA k) % 18446744073709551616)) % 18446744073709551616) rfl rfl (IntKind.wrap_u64 _) ?_)
    obtain ⟨F, hFe⟩ : ∃ x, wr (((X * ((widthA k) % 18446744073709551616)) % 18446744073709551616)) = x := ⟨_, rfl⟩
    refine s_cons (op_conv (k := .u64) (a := ((X * ((widthA k) % 18446744073709551616)) % 18446744073709551616)) F Try.underlying2 (by rw [Try.underlying54]; rfl) rfl hFe ?_)
    refine s_cons (op_move (.pointer (some ⟨g_c, 0, none⟩)) q48_0 ?_)
    refine s_cons (op_call Try.call41 (evs_cons (v := (.pointer (some ⟨g_c, 0, none⟩))) rfl evs_nil) (c_cNumE (g_c := g_c) (b := b) (at_ := r29) (bad := (decide (1099511627776 < r28) || r30)) (hl := hl) (hst := hst)) ?_)
    rintro _ w57 ⟨r51, r52, r53, rfl, hcall, x54, x55, x56⟩
    refine ⟨_, rfl, ?_⟩
    have hst : St w0 w57 (.blk g_c 66 #[(.string (str b)), (.int .i64 r52), (.bool r53)] :: rowT 71 aggE vo out :: L) := hcall
    refine s_cons (op_and (k := .u64) (a := r51) (b := 4611686018427387903) (r51 % 4611686018427387904) rfl rfl (and62 (rnE (by assumption)).1 (rnE (by assumption)).2) ?_)
    refine s_cons (op_conv (k := .u64) (a := (r51 % 4611686018427387904)) (r51 % 4611686018427387904) Try.underlying2 (by rw [Try.underlying54]; rfl) rfl (xi64 (by omega) (by omega)) ?_)
    obtain ⟨C, hCe⟩ : ∃ x, (r51 % 4611686018427387904) + 1 = x := ⟨_, rfl⟩
    refine s_cons (op_add (k := .i64) (a := (r51 % 4611686018427387904)) (b := 1) C rfl rfl (Eq.trans (xi64 (by omega) (by omega)) hCe) ?_)
    refine s_cons (op_build (r := (.agg #[(.int .i64 F), (.int .i64 C), (.int .i64 0), (.int .i64 0), (.int .i64 0), (.int .i64 0), (.int .i64 0)])) (evp_cons (v := (.int .i64 F)) rfl (evp_cons (v := (.int .i64 C)) rfl evp_nil)) (by simp [Instr.build, Instr.fill, Value.cells, Try.runUnderlying71, Try.zeroValue71]) ?_)
    refine s_cons (op_alloc (cs := #[(.int .i64 0), (.int .i64 0), (.int .i64 0), (.int .i64 0), (.int .i64 0), (.int .i64 0), (.int .i64 0)]) hst Try.zeroValue71 rfl (fun g58 w59 hst _ => ?_))
    replace hst : St w0 w59 (.blk g58 71 #[(.int .i64 0), (.int .i64 0), (.int .i64 0), (.int .i64 0), (.int .i64 0), (.int .i64 0), (.int .i64 0)] :: .blk g_c 66 #[(.string (str b)), (.int .i64 r52), (.bool r53)] :: rowT 71 aggE vo out :: L) := hst
    refine s_cons0 (op_storeAll hst 0 rfl Try.sizeOf71 rfl rfl rfl rfl (by simp [Value.oneCell']) (fun w60 hst => ?_))
    replace hst : St w0 w60 (.blk g58 71 #[(.int .i64 F), (.int .i64 C), (.int .i64 0), (.int .i64 0), (.int .i64 0), (.int .i64 0), (.int .i64 0)] :: .blk g_c 66 #[(.string (str b)), (.int .i64 r52), (.bool r53)] :: rowT 71 aggE vo out :: L) := hst
    refine s_nil ?_
    refine then_n ?_
    refine cE_seq ?_
    refine cE_region rfl ?_
    refine s_cons (op_move (.pointer (some ⟨g_c, 0, none⟩)) q48_0 ?_)
    replace hst : St w0 w60 (.blk g_c 66 #[(.string (str b)), (.int .i64 r52), (.bool r53)] :: .blk g58 71 #[(.int .i64 F), (.int .i64 C), (.int .i64 0), (.int .i64 0), (.int .i64 0), (.int .i64 0), (.int .i64 0)] :: rowT 71 aggE vo out :: L) := hst.front 1 rfl
    refine s_cons (op_call Try.call41 (evs_cons (v := (.pointer (some ⟨g_c, 0, none⟩))) rfl evs_nil) (c_cNumE (g_c := g_c) (b := b) (at_ := r52) (bad := r53) (hl := hl) (hst := hst)) ?_)
    rintro _ w67 ⟨r61, r62, r63, rfl, hcall, x64, x65, x66⟩
    refine ⟨_, rfl, ?_⟩
    have hst : St w0 w67 (.blk g_c 66 #[(.string (str b)), (.int .i64 r62), (.bool r63)] :: .blk g58 71 #[(.int .i64 F), (.int .i64 C), (.int .i64 0), (.int .i64 0), (.int .i64 0), (.int .i64 0), (.int .i64 0)] :: rowT 71 aggE vo out :: L) := hcall
    refine s_cons (op_call Try.call42 (evs_cons (v := (.int .u64 r61)) rfl evs_nil) (c_rZagE (w0 := w67) (n := r61) (h0 := (rnE (by assumption)).1) (h1 := (rnE (by assumption)).2)) ?_)
    rintro _ w70 ⟨r68, rfl, hcall, x69⟩
    refine ⟨_, rfl, ?_⟩
    have hst : St w0 w70 (.blk g_c 66 #[(.string (str b)), (.int .i64 r62), (.bool r63)] :: .blk g58 71 #[(.int .i64 F), (.int .i64 C), (.int .i64 0), (.int .i64 0), (.int .i64 0), (.int .i64 0), (.int .i64 0)] :: rowT 71 aggE vo out :: L) := hst.call hcall
    refine s_cons (op_fieldAddr (s := 0) Try.underlying71 rfl rfl Try.sizeOf2 rfl ?_)
    refine s_cons0 (op_store1 hst 1 rfl Try.sizeOf2 rfl rfl rfl (show 3 < 7 from by decide) (fun w71 hst => ?_))
    replace hst : St w0 w71 (.blk g_c 66 #[(.string (str b)), (.int .i64 r62), (.bool r63)] :: .blk g58 71 #[(.int .i64 F), (.int .i64 C), (.int .i64 0), (.int .i64 r68), (.int .i64 0), (.int .i64 0), (.int .i64 0)] :: rowT 71 aggE vo out :: L) := hst
    refine s_nil ?_
    refine then_n ?_
    refine cE_seq ?_
    refine cE_region rfl ?_
    refine s_cons (op_fieldAddr (s := 0) Try.underlying71 rfl rfl Try.sizeOf2 rfl ?_)
    refine s_cons (op_load1 (u := (.int .i64 r68)) Try.isAgg2 rfl ((hst.cell 1 rfl).drop 3) ?_)
    refine s_cons (op_fieldAddr (s := 0) Try.underlying71 rfl rfl Try.sizeOf2 rfl ?_)
    refine s_cons (op_load1 (u := (.int .i64 r68)) Try.isAgg2 rfl ((hst.cell 1 rfl).drop 3) ?_)
    refine s_cons (op_fieldAddr (s := 0) Try.underlying71 rfl rfl Try.sizeOf2 rfl ?_)
    refine s_cons (op_load1 (u := (.int .i64 r68)) Try.isAgg2 rfl ((hst.cell 1 rfl).drop 3) ?_)
    refine s_cons (op_fieldAddr (s := 0) Try.underlying71 rfl rfl Try.sizeOf2 rfl ?_)
    refine s_cons (op_load1 (u := (.int .i64 r68)) Try.isAgg2 rfl ((hst.cell 1 rfl).drop 3) ?_)
    refine s_cons (op_fieldAddr (s := 0) Try.underlying71 rfl rfl Try.sizeOf2 rfl ?_)
    refine s_cons0 (op_store1 hst 1 rfl Try.sizeOf2 rfl rfl rfl (show 2 < 7 from by decide) (fun w72 hst => ?_))
    replace hst : St w0 w72 (.blk g_c 66 #[(.string (str b)), (.int .i64 r62), (.bool r63)] :: .blk g58 71 #[(.int .i64 F), (.int .i64 C), (.int .i64 r68), (.int .i64 r68), (.int .i64 0), (.int .i64 0), (.int .i64 0)] :: rowT 71 aggE vo out :: L) := hst
    refine s_cons (op_fieldAddr (s := 0) Try.underlying71 rfl rfl Try.sizeOf2 rfl ?_)
    refine s_cons0 (op_store1 hst 1 rfl Try.sizeOf2 rfl rfl rfl (show 4 < 7 from by decide) (fun w73 hst => ?_))
    replace hst : St w0 w73 (.blk g_c 66 #[(.string (str b)), (.int .i64 r62), (.bool r63)] :: .blk g58 71 #[(.int .i64 F), (.int .i64 C), (.int .i64 r68), (.int .i64 r68), (.int .i64 r68), (.int .i64 0), (.int .i64 0)] :: rowT 71 aggE vo out :: L) := hst
    refine s_cons (op_fieldAddr (s := 0) Try.underlying71 rfl rfl Try.sizeOf2 rfl ?_)
    refine s_cons0 (op_store1 hst 1 rfl Try.sizeOf2 rfl rfl rfl (show 5 < 7 from by decide) (fun w74 hst => ?_))
    replace hst : St w0 w74 (.blk g_c 66 #[(.string (str b)), (.int .i64 r62), (.bool r63)] :: .blk g58 71 #[(.int .i64 F), (.int .i64 C), (.int .i64 r68), (.int .i64 r68), (.int .i64 r68), (.int .i64 r68), (.int .i64 0)] :: rowT 71 aggE vo out :: L) := hst
    refine s_cons (op_fieldAddr (s := 0) Try.underlying71 rfl rfl Try.sizeOf2 rfl ?_)
    refine s_cons0 (op_store1 hst 1 rfl Try.sizeOf2 rfl rfl rfl (show 6 < 7 from by decide) (fun w75 hst => ?_))
    replace hst : St w0 w75 (.blk g_c 66 #[(.string (str b)), (.int .i64 r62), (.bool r63)] :: .blk g58 71 #[(.int .i64 F), (.int .i64 C), (.int .i64 r68), (.int .i64 r68), (.int .i64 r68), (.int .i64 r68), (.int .i64 r68)] :: rowT 71 aggE vo out :: L) := hst
    refine s_nil ?_
    refine then_n ?_
    refine cE_seq ?_
    refine cE_seq ?_
    refine cE_region rfl ?_
    refine s_cons (op_fieldAddr (s := 0) Try.underlying71 rfl rfl Try.sizeOf2 rfl ?_)
    refine s_cons (op_load1 (u := (.int .i64 C)) Try.isAgg2 rfl ((hst.cell 1 rfl).drop 1) ?_)
    refine s_cons (op_gtr (k := .i64) (a := C) (b := 1) rfl rfl ?_)
    refine s_nil ?_
    refine then_n ?_
    rcases Bool.eq_false_or_eq_true (decide (1 < C)) with b76 | b76
    · have c77 : 1 < C := of_decide_eq_true b76
      refine cE_cond true (congrArg Value.bool b76) (fun _ => ?_) (fun h => by cases h)
      refine cE_seq ?_
      have hM80 : stabML [4, 8] [(kEq (.pointer (some ⟨g58, (0 + 3), none⟩))), (kEq (.int .i64 r68)), (kEq (.int .u64 (r68 % 18446744073709551616))), (kEq (.pointer (some ⟨g_c, 0, none⟩))), (kEq (.int .u64 (rnum r63 b r62))), (kEq (.int .u64 (((r68 % 18446744073709551616) + (rnum r63 b r62)) % 18446744073709551616))), (kEq (.int .i64 (wr ((((r68 % 18446744073709551616) + (rnum r63 b r62)) % 18446744073709551616))))), (kEq (.pointer (some ⟨g58, (0 + 4), none⟩))), kAny] := ⟨mEq, mEq, mEq, mEq, mEq, mEq, mEq, mEq, mAny, trivial⟩
      refine cE_regionK (fun (D : Nat → Bool) (w : World) => St w0 w (rowT 71 aggE vo out :: L) ∧ (D 4 = false → St w0 w (.blk g_c 66 #[(.string (str b)), (.int .i64 r62), (.bool r63)] :: .blk g58 71 #[(.int .i64 F), (.int .i64 C), (.int .i64 r68), (.int .i64 r68), (.int .i64 r68), (.int .i64 r68), (.int .i64 r68)] :: rowT 71 aggE vo out :: L)) ∧ (D 4 = true → D 8 = false → St w0 w (.blk g_c 66 #[(.string (str b)), (.int .i64 (rto r63 b r62)), (.bool (rbad r63 b r62))] :: .blk g58 71 #[(.int .i64 F), (.int .i64 C), (.int .i64 r68), (.int .i64 r68), (.int .i64 r68), (.int .i64 r68), (.int .i64 r68)] :: rowT 71 aggE vo out :: L)) ∧ (D 8 = true → St w0 w (.blk g_c 66 #[(.string (str b)), (.int .i64 (rto r63 b r62)), (.bool (rbad r63 b r62))] :: .blk g58 71 #[(.int .i64 F), (.int .i64 C), (.int .i64 r68), (.int .i64 r68), (.int .i64 (wr ((((r68 % 18446744073709551616) + (rnum r63 b r62)) % 18446744073709551616)))), (.int .i64 r68), (.int .i64 r68)] :: rowT 71 aggE vo out :: L))) [[(10, none)], [(84, some 0)], [(85, some 1)], [(0, none)], [(87, some 3)], [(86, some 2), (88, some 4)], [(89, some 5)], [(10, none)], [(91, some 7), (90, some 6)]] (RofK [(kEq (.pointer (some ⟨g58, (0 + 3), none⟩))), (kEq (.int .i64 r68)), (kEq (.int .u64 (r68 % 18446744073709551616))), (kEq (.pointer (some ⟨g_c, 0, none⟩))), (kEq (.int .u64 (rnum r63 b r62))), (kEq (.int .u64 (((r68 % 18446744073709551616) + (rnum r63 b r62)) % 18446744073709551616))), (kEq (.int .i64 (wr ((((r68 % 18446744073709551616) + (rnum r63 b r62)) % 18446744073709551616))))), (kEq (.pointer (some ⟨g58, (0 + 4), none⟩))), kAny]) (by kernel_rfl) rfl (by kernel_rfl) ⟨hst.drewW.sub (.cons _ (.cons _ (.cons_cons _ (List.Sublist.refl _)))), (fun _ => hst.drewW), (fun h => absurd h Bool.false_ne_true), (fun h => absurd h Bool.false_ne_true)⟩ ⟨?_, ?_, ?_, ?_, ?_, ?_, ?_, ?_, ?_, trivial⟩ ?_
      · rintro D82 ρ83 w84 hD85 hE86 hC87 hJ88 hA89 ⟨f10, _⟩
        have hst := hJ88.1
        exact go_plain (op_fieldAddr (s := 0) Try.underlying71 rfl rfl Try.sizeOf2 (f10.trans rfl) (kN0 (i := 0) hM80 (by decide) (by exact hJ88) (by exact rfl)))
      · rintro D90 ρ91 w92 hD93 hE94 hC95 hJ96 hA97 ⟨f84, _⟩
        rcases Bool.eq_false_or_eq_true (D90 4) with hY98 | hY98
        · have hst := hJ96.2.2.1 hY98 (not_yet hD93 (fun hm => (hC95 8 1 hm (by kernel_rfl))))
          replace hst : St w0 w92 (.blk g_c 66 #[(.string (str b)), (.int .i64 (rto r63 b r62)), (.bool (rbad r63 b r62))] :: .blk g58 71 #[(.int .i64 F), (.int .i64 C), (.int .i64 r68), (.int .i64 r68), (.int .i64 r68), (.int .i64 r68), (.int .i64 r68)] :: rowT 71 aggE vo out :: L) := hst
          exact go_plain (op_load1 (u := (.int .i64 r68)) Try.isAgg2 f84 ((hst.cell 1 rfl).drop 3) (kN0 (i := 1) hM80 (by decide) (by exact hJ96) (by exact rfl)))
        · have hst := hJ96.2.1 hY98
          replace hst : St w0 w92 (.blk g_c 66 #[(.string (str b)), (.int .i64 r62), (.bool r63)] :: .blk g58 71 #[(.int .i64 F), (.int .i64 C), (.int .i64 r68), (.int .i64 r68), (.int .i64 r68), (.int .i64 r68), (.int .i64 r68)] :: rowT 71 aggE vo out :: L) := hst
          exact go_plain (op_load1 (u := (.int .i64 r68)) Try.isAgg2 f84 ((hst.cell 1 rfl).drop 3) (kN0 (i := 1) hM80 (by decide) (by exact hJ96) (by exact rfl)))
      · rintro D99 ρ100 w101 hD102 hE103 hC104 hJ105 hA106 ⟨f85, _⟩
        have hst := hJ105.1
        exact go_plain (op_conv (k := .i64) (a := r68) (r68 % 18446744073709551616) Try.underlying54 (by rw [Try.underlying2]; rfl) f85 (IntKind.wrap_u64 _) (kN0 (i := 2) hM80 (by decide) (by exact hJ105) (by exact rfl)))
      · rintro D107 ρ108 w109 hD110 hE111 hC112 hJ113 hA114 ⟨f0, _⟩
        have hst := hJ113.2.1 (not_yet hD110 (fun hm => (hC112 4 3 hm (by kernel_rfl))))
        replace hst : St w0 w109 (.blk g_c 66 #[(.string (str b)), (.int .i64 r62), (.bool r63)] :: .blk g58 71 #[(.int .i64 F), (.int .i64 C), (.int .i64 r68), (.int .i64 r68), (.int .i64 r68), (.int .i64 r68), (.int .i64 r68)] :: rowT 71 aggE vo out :: L) := hst
        exact go_plain (op_move (.pointer (some ⟨g_c, 0, none⟩)) (f0.trans q48_0) (kN0 (i := 3) hM80 (by decide) (by exact hJ113) (by exact rfl)))
      · rintro D115 ρ116 w117 hD118 hE119 hC120 hJ121 hA122 ⟨f87, _⟩
        have hst := hJ121.2.1 hD118
        replace hst : St w0 w117 (.blk g_c 66 #[(.string (str b)), (.int .i64 r62), (.bool r63)] :: .blk g58 71 #[(.int .i64 F), (.int .i64 C), (.int .i64 r68), (.int .i64 r68), (.int .i64 r68), (.int .i64 r68), (.int .i64 r68)] :: rowT 71 aggE vo out :: L) := hst
        refine go_plain (op_call Try.call41 (evs_cons (v := (.pointer (some ⟨g_c, 0, none⟩))) f87 evs_nil) (c_cNum (g_c := g_c) (b := b) (at_ := r62) (bad := r63) (hl := hl) (hst := hst)) ?_)
        rintro _ w123 ⟨rfl, hcall⟩
        refine ⟨_, rfl, ?_⟩
        have hst : St w0 w123 (.blk g_c 66 #[(.string (str b)), (.int .i64 (rto r63 b r62)), (.bool (rbad r63 b r62))] :: .blk g58 71 #[(.int .i64 F), (.int .i64 C), (.int .i64 r68), (.int .i64 r68), (.int .i64 r68), (.int .i64 r68), (.int .i64 r68)] :: rowT 71 aggE vo out :: L) := hcall
        have hI124 : stabIXs 4 [] D115 0 [(kEq (.pointer (some ⟨g58, (0 + 3), none⟩))), (kEq (.int .i64 r68)), (kEq (.int .u64 (r68 % 18446744073709551616))), (kEq (.pointer (some ⟨g_c, 0, none⟩))), (kEq (.int .u64 (rnum r63 b r62))), (kEq (.int .u64 (((r68 % 18446744073709551616) + (rnum r63 b r62)) % 18446744073709551616))), (kEq (.int .i64 (wr ((((r68 % 18446744073709551616) + (rnum r63 b r62)) % 18446744073709551616))))), (kEq (.pointer (some ⟨g58, (0 + 4), none⟩))), kAny] := ⟨Or.inr (Or.inr (Or.inr iEq)), Or.inr (Or.inr (Or.inr iEq)), Or.inr (Or.inr (Or.inr iEq)), Or.inr (Or.inr (Or.inr iEq)), Or.inl rfl, Or.inr (Or.inr (Or.inl (not_yet hD118 (fun hm => (hC120 5 4 hm (by kernel_rfl)))))), Or.inr (Or.inr (Or.inl (not_yet hD118 (fun hm => (hC120 5 4 (hC120 6 5 hm (by kernel_rfl)) (by kernel_rfl)))))), Or.inr (Or.inr (Or.inl (not_yet hD118 (fun hm => (hC120 7 4 hm (by kernel_rfl)))))), Or.inr (Or.inr (Or.inl (not_yet hD118 (fun hm => (hC120 8 4 hm (by kernel_rfl)))))), trivial⟩
        refine ⟨by exact ⟨hst.sub (.cons _ (.cons _ (.cons_cons _ (List.Sublist.refl _)))), (fun y0 => absurd y0 (fun h => Bool.noConfusion h)), (fun y0 y1 => hst.sub (.cons_cons _ (.cons_cons _ (.cons_cons _ (List.Sublist.refl _))))), (fun y0 => absurd (show D115 8 = true from y0) (by rw [(not_yet hD118 (fun hm => (hC120 8 4 hm (by kernel_rfl))))]; decide))⟩, by exact rfl, kX [] hI124 ?_⟩
        intro j d hj; cases hj
      · rintro D125 ρ126 w127 hD128 hE129 hC130 hJ131 hA132 ⟨f86, f88, _⟩
        have hst := hJ131.2.2.1 (hE129 4 (by kernel_rfl)) (not_yet hD128 (fun hm => (hC130 8 5 hm (by kernel_rfl))))
        replace hst : St w0 w127 (.blk g_c 66 #[(.string (str b)), (.int .i64 (rto r63 b r62)), (.bool (rbad r63 b r62))] :: .blk g58 71 #[(.int .i64 F), (.int .i64 C), (.int .i64 r68), (.int .i64 r68), (.int .i64 r68), (.int .i64 r68), (.int .i64 r68)] :: rowT 71 aggE vo out :: L) := hst
        exact go_plain (op_add (k := .u64) (a := (r68 % 18446744073709551616)) (b := (rnum r63 b r62)) (((r68 % 18446744073709551616) + (rnum r63 b r62)) % 18446744073709551616) f86 f88 (IntKind.wrap_u64 _) (kN0 (i := 5) hM80 (by decide) (by exact hJ131) (by exact rfl)))
      · rintro D133 ρ134 w135 hD136 hE137 hC138 hJ139 hA140 ⟨f89, _⟩
        have hst := hJ139.2.2.1 (hC138 5 4 (hE137 5 (by kernel_rfl)) (by kernel_rfl)) (not_yet hD136 (fun hm => (hC138 8 6 hm (by kernel_rfl))))
        replace hst : St w0 w135 (.blk g_c 66 #[(.string (str b)), (.int .i64 (rto r63 b r62)), (.bool (rbad r63 b r62))] :: .blk g58 71 #[(.int .i64 F), (.int .i64 C), (.int .i64 r68), (.int .i64 r68), (.int .i64 r68), (.int .i64 r68), (.int .i64 r68)] :: rowT 71 aggE vo out :: L) := hst
        exact go_plain (op_conv (k := .u64) (a := (((r68 % 18446744073709551616) + (rnum r63 b r62)) % 18446744073709551616)) (wr ((((r68 % 18446744073709551616) + (rnum r63 b r62)) % 18446744073709551616))) Try.underlying2 (by rw [Try.underlying54]; rfl) f89 rfl (kN0 (i := 6) hM80 (by decide) (by exact hJ139) (by exact rfl)))
      · rintro D141 ρ142 w143 hD144 hE145 hC146 hJ147 hA148 ⟨f10, _⟩
        have hst := hJ147.2.2.1 (hE145 4 (by kernel_rfl)) (not_yet hD144 (fun hm => (hC146 8 7 hm (by kernel_rfl))))
        replace hst : St w0 w143 (.blk g_c 66 #[(.string (str b)), (.int .i64 (rto r63 b r62)), (.bool (rbad r63 b r62))] :: .blk g58 71 #[(.int .i64 F), (.int .i64 C), (.int .i64 r68), (.int .i64 r68), (.int .i64 r68), (.int .i64 r68), (.int .i64 r68)] :: rowT 71 aggE vo out :: L) := hst
        exact go_plain (op_fieldAddr (s := 0) Try.underlying71 rfl rfl Try.sizeOf2 (f10.trans rfl) (kN0 (i := 7) hM80 (by decide) (by exact hJ147) (by exact rfl)))
      · rintro D149 ρ150 w151 hD152 hE153 hC154 hJ155 hA156 ⟨f91, f90, _⟩
        have hst := hJ155.2.2.1 (hE153 4 (by kernel_rfl)) hD152
        replace hst : St w0 w151 (.blk g_c 66 #[(.string (str b)), (.int .i64 (rto r63 b r62)), (.bool (rbad r63 b r62))] :: .blk g58 71 #[(.int .i64 F), (.int .i64 C), (.int .i64 r68), (.int .i64 r68), (.int .i64 r68), (.int .i64 r68), (.int .i64 r68)] :: rowT 71 aggE vo out :: L) := hst
        refine go_plain (op_store1 hst 1 rfl Try.sizeOf2 f91 f90 rfl (show 4 < 7 from by decide) (fun w157 hst => ?_))
        replace hst : St w0 w157 (.blk g_c 66 #[(.string (str b)), (.int .i64 (rto r63 b r62)), (.bool (rbad r63 b r62))] :: .blk g58 71 #[(.int .i64 F), (.int .i64 C), (.int .i64 r68), (.int .i64 r68), (.int .i64 (wr ((((r68 % 18446744073709551616) + (rnum r63 b r62)) % 18446744073709551616)))), (.int .i64 r68), (.int .i64 r68)] :: rowT 71 aggE vo out :: L) := hst
        have hI158 : stabIXs 8 [] D149 0 [(kEq (.pointer (some ⟨g58, (0 + 3), none⟩))), (kEq (.int .i64 r68)), (kEq (.int .u64 (r68 % 18446744073709551616))), (kEq (.pointer (some ⟨g_c, 0, none⟩))), (kEq (.int .u64 (rnum r63 b r62))), (kEq (.int .u64 (((r68 % 18446744073709551616) + (rnum r63 b r62)) % 18446744073709551616))), (kEq (.int .i64 (wr ((((r68 % 18446744073709551616) + (rnum r63 b r62)) % 18446744073709551616))))), (kEq (.pointer (some ⟨g58, (0 + 4), none⟩))), kAny] := ⟨Or.inr (Or.inr (Or.inr iEq)), Or.inr (Or.inr (Or.inr iEq)), Or.inr (Or.inr (Or.inr iEq)), Or.inr (Or.inr (Or.inr iEq)), Or.inr (Or.inr (Or.inr iEq)), Or.inr (Or.inr (Or.inr iEq)), Or.inr (Or.inr (Or.inr iEq)), Or.inr (Or.inr (Or.inr iEq)), Or.inl rfl, trivial⟩
        refine ⟨by exact ⟨hst.sub (.cons _ (.cons _ (.cons_cons _ (List.Sublist.refl _)))), (fun y0 => absurd (show D149 4 = false from y0) (by rw [(hE153 4 (by kernel_rfl))]; decide)), (fun y0 y1 => absurd y1 (fun h => Bool.noConfusion h)), (fun y0 => hst.sub (.cons_cons _ (.cons_cons _ (.cons_cons _ (List.Sublist.refl _)))))⟩, by exact trivial, kX [] hI158 ?_⟩
        intro j d hj; cases hj
      intro ρ159 w160 Dw160 hallw160 hJw160 hRw160 hkw160
      have hst : St w0 w160 (.blk g_c 66 #[(.string (str b)), (.int .i64 (rto r63 b r62)), (.bool (rbad r63 b r62))] :: .blk g58 71 #[(.int .i64 F), (.int .i64 C), (.int .i64 r68), (.int .i64 r68), (.int .i64 (wr ((((r68 % 18446744073709551616) + (rnum r63 b r62)) % 18446744073709551616)))), (.int .i64 r68), (.int .i64 r68)] :: rowT 71 aggE vo out :: L) := hJw160.2.2.2 (hallw160 8 (show 8 < 9 from by decide))
      have uw160_0 : ρ159 0 = (.pointer (some ⟨g_c, 0, none⟩)) := (hkw160 0 rfl).trans q48_0
      have uw160_1 : ρ159 1 = (.int .i64 k) := (hkw160 1 rfl).trans q48_1
      have uw160_4 : ρ159 4 = (.slice none 0 0) := (hkw160 4 rfl).trans q48_4
      have uw160_5 : ρ159 5 = (.int .u64 r1) := (hkw160 5 rfl).trans q48_5
      have uw160_7 : ρ159 7 = (.int .u64 ((widthA k) % 18446744073709551616)) := (hkw160 7 rfl).trans q48_7
      have uw160_6 : ρ159 6 = vo := (hkw160 6 rfl).trans q48_6
      have uw160_8 : ρ159 8 = (.int .i64 (i : Int)) := (hkw160 8 rfl).trans q48_8
      have uw160_9 : ρ159 9 = (.int .u64 X) := (hkw160 9 rfl).trans q48_9
      have uw160_55 : ρ159 55 = (.int .u64 X) := (hkw160 55 rfl).trans rfl
      have uw160_56 : ρ159 56 = (.int .u64 ((widthA k) % 18446744073709551616)) := (hkw160 56 rfl).trans rfl
      have uw160_57 : ρ159 57 = (.int .u64 ((X * ((widthA k) % 18446744073709551616)) % 18446744073709551616)) := (hkw160 57 rfl).trans rfl
      have uw160_58 : ρ159 58 = (.int .i64 F) := (hkw160 58 rfl).trans rfl
      have uw160_59 : ρ159 59 = (.pointer (some ⟨g_c, 0, none⟩)) := (hkw160 59 rfl).trans rfl
      have uw160_60 : ρ159 60 = (.int .u64 r51) := (hkw160 60 rfl).trans rfl
      have uw160_61 : ρ159 61 = (.int .u64 (r51 % 4611686018427387904)) := (hkw160 61 rfl).trans rfl
      have uw160_62 : ρ159 62 = (.int .i64 (r51 % 4611686018427387904)) := (hkw160 62 rfl).trans rfl
      have uw160_63 : ρ159 63 = (.int .i64 C) := (hkw160 63 rfl).trans rfl
      have uw160_64 : ρ159 64 = (.agg #[(.int .i64 F), (.int .i64 C), (.int .i64 0), (.int .i64 0), (.int .i64 0), (.int .i64 0), (.int .i64 0)]) := (hkw160 64 rfl).trans rfl
      have uw160_10 : ρ159 10 = (.pointer (some ⟨g58, 0, none⟩)) := (hkw160 10 rfl).trans rfl
      have uw160_65 : ρ159 65 = (.pointer (some ⟨g_c, 0, none⟩)) := (hkw160 65 rfl).trans rfl
      have uw160_66 : ρ159 66 = (.int .u64 r61) := (hkw160 66 rfl).trans rfl
      have uw160_67 : ρ159 67 = (.int .i64 r68) := (hkw160 67 rfl).trans rfl
      have uw160_68 : ρ159 68 = (.pointer (some ⟨g58, (0 + 3), none⟩)) := (hkw160 68 rfl).trans rfl
      have uw160_69 : ρ159 69 = (.pointer (some ⟨g58, (0 + 3), none⟩)) := (hkw160 69 rfl).trans rfl
      have uw160_70 : ρ159 70 = (.int .i64 r68) := (hkw160 70 rfl).trans rfl
      have uw160_71 : ρ159 71 = (.pointer (some ⟨g58, (0 + 3), none⟩)) := (hkw160 71 rfl).trans rfl
      have uw160_72 : ρ159 72 = (.int .i64 r68) := (hkw160 72 rfl).trans rfl
      have uw160_73 : ρ159 73 = (.pointer (some ⟨g58, (0 + 3), none⟩)) := (hkw160 73 rfl).trans rfl
      have uw160_74 : ρ159 74 = (.int .i64 r68) := (hkw160 74 rfl).trans rfl
      have uw160_75 : ρ159 75 = (.pointer (some ⟨g58, (0 + 3), none⟩)) := (hkw160 75 rfl).trans rfl
      have uw160_76 : ρ159 76 = (.int .i64 r68) := (hkw160 76 rfl).trans rfl
      have uw160_77 : ρ159 77 = (.pointer (some ⟨g58, (0 + 2), none⟩)) := (hkw160 77 rfl).trans rfl
      have uw160_78 : ρ159 78 = (.pointer (some ⟨g58, (0 + 4), none⟩)) := (hkw160 78 rfl).trans rfl
      have uw160_79 : ρ159 79 = (.pointer (some ⟨g58, (0 + 5), none⟩)) := (hkw160 79 rfl).trans rfl
      have uw160_80 : ρ159 80 = (.pointer (some ⟨g58, (0 + 6), none⟩)) := (hkw160 80 rfl).trans rfl
      have uw160_81 : ρ159 81 = (.pointer (some ⟨g58, (0 + 1), none⟩)) := (hkw160 81 rfl).trans rfl
      have uw160_82 : ρ159 82 = (.int .i64 C) := (hkw160 82 rfl).trans rfl
      have uw160_83 : ρ159 83 = (.bool (decide (1 < C))) := (hkw160 83 rfl).trans rfl
      refine then_n ?_
      refine cE_seq ?_
      refine cE_region rfl ?_
      refine s_cons (op_move (.pointer (some ⟨g_c, 0, none⟩)) uw160_0 ?_)
      refine s_cons (op_call Try.call41 (evs_cons (v := (.pointer (some ⟨g_c, 0, none⟩))) rfl evs_nil) (c_cNumE (g_c := g_c) (b := b) (at_ := (rto r63 b r62)) (bad := (rbad r63 b r62)) (hl := hl) (hst := hst)) ?_)
      rintro _ w167 ⟨r161, r162, r163, rfl, hcall, x164, x165, x166⟩
      refine ⟨_, rfl, ?_⟩
      have hst : St w0 w167 (.blk g_c 66 #[(.string (str b)), (.int .i64 r162), (.bool r163)] :: .blk g58 71 #[(.int .i64 F), (.int .i64 C), (.int .i64 r68), (.int .i64 r68), (.int .i64 (wr ((((r68 % 18446744073709551616) + (rnum r63 b r62)) % 18446744073709551616)))), (.int .i64 r68), (.int .i64 r68)] :: rowT 71 aggE vo out :: L) := hcall
      refine s_cons (op_call Try.call42 (evs_cons (v := (.int .u64 r161)) rfl evs_nil) (c_rZagE (w0 := w167) (n := r161) (h0 := (rnE (by assumption)).1) (h1 := (rnE (by assumption)).2)) ?_)
      rintro _ w170 ⟨r168, rfl, hcall, x169⟩
      refine ⟨_, rfl, ?_⟩
      have hst : St w0 w170 (.blk g_c 66 #[(.string (str b)), (.int .i64 r162), (.bool r163)] :: .blk g58 71 #[(.int .i64 F), (.int .i64 C), (.int .i64 r68), (.int .i64 r68), (.int .i64 (wr ((((r68 % 18446744073709551616) + (rnum r63 b r62)) % 18446744073709551616)))), (.int .i64 r68), (.int .i64 r68)] :: rowT 71 aggE vo out :: L) := hst.call hcall
      refine s_cons (op_fieldAddr (s := 0) Try.underlying71 rfl rfl Try.sizeOf2 uw160_10 ?_)
      refine s_cons0 (op_store1 hst 1 rfl Try.sizeOf2 rfl rfl rfl (show 2 < 7 from by decide) (fun w171 hst => ?_))
      replace hst : St w0 w171 (.blk g_c 66 #[(.string (str b)), (.int .i64 r162), (.bool r163)] :: .blk g58 71 #[(.int .i64 F), (.int .i64 C), (.int .i64 r168), (.int .i64 r68), (.int .i64 (wr ((((r68 % 18446744073709551616) + (rnum r63 b r62)) % 18446744073709551616)))), (.int .i64 r68), (.int .i64 r68)] :: rowT 71 aggE vo out :: L) := hst
      refine s_nil ?_
      refine then_n ?_
      refine cE_seq ?_
      have hM174 : stabML [4, 8] [(kEq (.pointer (some ⟨g58, (0 + 3), none⟩))), (kEq (.int .i64 r68)), (kEq (.int .u64 (r68 % 18446744073709551616))), (kEq (.pointer (some ⟨g_c, 0, none⟩))), (kEq (.int .u64 (rnum r163 b r162))), (kEq (.int .u64 (((r68 % 18446744073709551616) + (rnum r163 b r162)) % 18446744073709551616))), (kEq (.int .i64 (wr ((((r68 % 18446744073709551616) + (rnum r163 b r162)) % 18446744073709551616))))), (kEq (.pointer (some ⟨g58, (0 + 5), none⟩))), kAny] := ⟨mEq, mEq, mEq, mEq, mEq, mEq, mEq, mEq, mAny, trivial⟩
      refine cE_regionK (fun (D : Nat → Bool) (w : World) => St w0 w (rowT 71 aggE vo out :: L) ∧ (D 4 = false → St w0 w (.blk g_c 66 #[(.string (str b)), (.int .i64 r162), (.bool r163)] :: .blk g58 71 #[(.int .i64 F), (.int .i64 C), (.int .i64 r168), (.int .i64 r68), (.int .i64 (wr ((((r68 % 18446744073709551616) + (rnum r63 b r62)) % 18446744073709551616)))), (.int .i64 r68), (.int .i64 r68)] :: rowT 71 aggE vo out :: L)) ∧ (D 4 = true → D 8 = false → St w0 w (.blk g_c 66 #[(.string (str b)), (.int .i64 (rto r163 b r162)), (.bool (rbad r163 b r162))] :: .blk g58 71 #[(.int .i64 F), (.int .i64 C), (.int .i64 r168), (.int .i64 r68), (.int .i64 (wr ((((r68 % 18446744073709551616) + (rnum r63 b r62)) % 18446744073709551616)))), (.int .i64 r68), (.int .i64 r68)] :: rowT 71 aggE vo out :: L)) ∧ (D 8 = true → St w0 w (.blk g_c 66 #[(.string (str b)), (.int .i64 (rto r163 b r162)), (.bool (rbad r163 b r162))] :: .blk g58 71 #[(.int .i64 F), (.int .i64 C), (.int .i64 r168), (.int .i64 r68), (.int .i64 (wr ((((r68 % 18446744073709551616) + (rnum r63 b r62)) % 18446744073709551616)))), (.int .i64 (wr ((((r68 % 18446744073709551616) + (rnum r163 b r162)) % 18446744073709551616)))), (.int .i64 r68)] :: rowT 71 aggE vo out :: L))) [[(10, none)], [(96, some 0)], [(97, some 1)], [(0, none)], [(99, some 3)], [(98, some 2), (100, some 4)], [(101, some 5)], [(10, none)], [(103, some 7), (102, some 6)]] (RofK [(kEq (.pointer (some ⟨g58, (0 + 3), none⟩))), (kEq (.int .i64 r68)), (kEq (.int .u64 (r68 % 18446744073709551616))), (kEq (.pointer (some ⟨g_c, 0, none⟩))), (kEq (.int .u64 (rnum r163 b r162))), (kEq (.int .u64 (((r68 % 18446744073709551616) + (rnum r163 b r162)) % 18446744073709551616))), (kEq (.int .i64 (wr ((((r68 % 18446744073709551616) + (rnum r163 b r162)) % 18446744073709551616))))), (kEq (.pointer (some ⟨g58, (0 + 5), none⟩))), kAny]) (by kernel_rfl) rfl (by kernel_rfl) ⟨hst.drewW.sub (.cons _ (.cons _ (.cons_cons _ (List.Sublist.refl _)))), (fun _ => hst.drewW), (fun h => absurd h Bool.false_ne_true), (fun h => absurd h Bool.false_ne_true)⟩ ⟨?_, ?_, ?_, ?_, ?_, ?_, ?_, ?_, ?_, trivial⟩ ?_
      · rintro D176 ρ177 w178 hD179 hE180 hC181 hJ182 hA183 ⟨f10, _⟩
        have hst := hJ182.1
        exact go_plain (op_fieldAddr (s := 0) Try.underlying71 rfl rfl Try.sizeOf2 (f10.trans uw160_10) (kN0 (i := 0) hM174 (by decide) (by exact hJ182) (by exact rfl)))
      · rintro D184 ρ185 w186 hD187 hE188 hC189 hJ190 hA191 ⟨f96, _⟩
        rcases Bool.eq_false_or_eq_true (D184 4) with hY192 | hY192
        · have hst := hJ190.2.2.1 hY192 (not_yet hD187 (fun hm => (hC189 8 1 hm (by kernel_rfl))))
          replace hst : St w0 w186 (.blk g_c 66 #[(.string (str b)), (.int .i64 (rto r163 b r162)), (.bool (rbad r163 b r162))] :: .blk g58 71 #[(.int .i64 F), (.int .i64 C), (.int .i64 r168), (.int .i64 r68), (.int .i64 (wr ((((r68 % 18446744073709551616) + (rnum r63 b r62)) % 18446744073709551616)))), (.int .i64 r68), (.int .i64 r68)] :: rowT 71 aggE vo out :: L) := hst
          exact go_plain (op_load1 (u := (.int .i64 r68)) Try.isAgg2 f96 ((hst.cell 1 rfl).drop 3) (kN0 (i := 1) hM174 (by decide) (by exact hJ190) (by exact rfl)))
        · have hst := hJ190.2.1 hY192
          replace hst : St w0 w186 (.blk g_c 66 #[(.string (str b)), (.int .i64 r162), (.bool r163)] :: .blk g58 71 #[(.int .i64 F), (.int .i64 C), (.int .i64 r168), (.int .i64 r68), (.int .i64 (wr ((((r68 % 18446744073709551616) + (rnum r63 b r62)) % 18446744073709551616)))), (.int .i64 r68), (.int .i64 r68)] :: rowT 71 aggE vo out :: L) := hst
          exact go_plain (op_load1 (u := (.int .i64 r68)) Try.isAgg2 f96 ((hst.cell 1 rfl).drop 3) (kN0 (i := 1) hM174 (by decide) (by exact hJ190) (by exact rfl)))
      · rintro D193 ρ194 w195 hD196 hE197 hC198 hJ199 hA200 ⟨f97, _⟩
        have hst := hJ199.1
        exact go_plain (op_conv (k := .i64) (a := r68) (r68 % 18446744073709551616) Try.underlying54 (by rw [Try.underlying2]; rfl) f97 (IntKind.wrap_u64 _) (kN0 (i := 2) hM174 (by decide) (by exact hJ199) (by exact rfl)))
      · rintro D201 ρ202 w203 hD204 hE205 hC206 hJ207 hA208 ⟨f0, _⟩
        have hst := hJ207.2.1 (not_yet hD204 (fun hm => (hC206 4 3 hm (by kernel_rfl))))
        replace hst : St w0 w203 (.blk g_c 66 #[(.string (str b)), (.int .i64 r162), (.bool r163)] :: .blk g58 71 #[(.int .i64 F), (.int .i64 C), (.int .i64 r168), (.int .i64 r68), (.int .i64 (wr ((((r68 % 18446744073709551616) + (rnum r63 b r62)) % 18446744073709551616)))), (.int .i64 r68), (.int .i64 r68)] :: rowT 71 aggE vo out :: L) := hst
        exact go_plain (op_move (.pointer (some ⟨g_c, 0, none⟩)) (f0.trans uw160_0) (kN0 (i := 3) hM174 (by decide) (by exact hJ207) (by exact rfl)))
      · rintro D209 ρ210 w211 hD212 hE213 hC214 hJ215 hA216 ⟨f99, _⟩
        have hst := hJ215.2.1 hD212
        replace hst : St w0 w211 (.blk g_c 66 #[(.string (str b)), (.int .i64 r162), (.bool r163)] :: .blk g58 71 #[(.int .i64 F), (.int .i64 C), (.int .i64 r168), (.int .i64 r68), (.int .i64 (wr ((((r68 % 18446744073709551616) + (rnum r63 b r62)) % 18446744073709551616)))), (.int .i64 r68), (.int .i64 r68)] :: rowT 71 aggE vo out :: L) := hst
        refine go_plain (op_call Try.call41 (evs_cons (v := (.pointer (some ⟨g_c, 0, none⟩))) f99 evs_nil) (c_cNum (g_c := g_c) (b := b) (at_ := r162) (bad := r163) (hl := hl) (hst := hst)) ?_)
        rintro _ w217 ⟨rfl, hcall⟩
        refine ⟨_, rfl, ?_⟩
        have hst : St w0 w217 (.blk g_c 66 #[(.string (str b)), (.int .i64 (rto r163 b r162)), (.bool (rbad r163 b r162))] :: .blk g58 71 #[(.int .i64 F), (.int .i64 C), (.int .i64 r168), (.int .i64 r68), (.int .i64 (wr ((((r68 % 18446744073709551616) + (rnum r63 b r62)) % 18446744073709551616)))), (.int .i64 r68), (.int .i64 r68)] :: rowT 71 aggE vo out :: L) := hcall
        have hI218 : stabIXs 4 [] D209 0 [(kEq (.pointer (some ⟨g58, (0 + 3), none⟩))), (kEq (.int .i64 r68)), (kEq (.int .u64 (r68 % 18446744073709551616))), (kEq (.pointer (some ⟨g_c, 0, none⟩))), (kEq (.int .u64 (rnum r163 b r162))), (kEq (.int .u64 (((r68 % 18446744073709551616) + (rnum r163 b r162)) % 18446744073709551616))), (kEq (.int .i64 (wr ((((r68 % 18446744073709551616) + (rnum r163 b r162)) % 18446744073709551616))))), (kEq (.pointer (some ⟨g58, (0 + 5), none⟩))), kAny] := ⟨Or.inr (Or.inr (Or.inr iEq)), Or.inr (Or.inr (Or.inr iEq)), Or.inr (Or.inr (Or.inr iEq)), Or.inr (Or.inr (Or.inr iEq)), Or.inl rfl, Or.inr (Or.inr (Or.inl (not_yet hD212 (fun hm => (hC214 5 4 hm (by kernel_rfl)))))), Or.inr (Or.inr (Or.inl (not_yet hD212 (fun hm => (hC214 5 4 (hC214 6 5 hm (by kernel_rfl)) (by kernel_rfl)))))), Or.inr (Or.inr (Or.inl (not_yet hD212 (fun hm => (hC214 7 4 hm (by kernel_rfl)))))), Or.inr (Or.inr (Or.inl (not_yet hD212 (fun hm => (hC214 8 4 hm (by kernel_rfl)))))), trivial⟩
        refine ⟨by exact ⟨hst.sub (.cons _ (.cons _ (.cons_cons _ (List.Sublist.refl _)))), (fun y0 => absurd y0 (fun h => Bool.noConfusion h)), (fun y0 y1 => hst.sub (.cons_cons _ (.cons_cons _ (.cons_cons _ (List.Sublist.refl _))))), (fun y0 => absurd (show D209 8 = true from y0) (by rw [(not_yet hD212 (fun hm => (hC214 8 4 hm (by kernel_rfl))))]; decide))⟩, by exact rfl, kX [] hI218 ?_⟩
        intro j d hj; cases hj
      · rintro D219 ρ220 w221 hD222 hE223 hC224 hJ225 hA226 ⟨f98, f100, _⟩
        have hst := hJ225.2.2.1 (hE223 4 (by kernel_rfl)) (not_yet hD222 (fun hm => (hC224 8 5 hm (by kernel_rfl))))
        replace hst : St w0 w221 (.blk g_c 66 #[(.string (str b)), (.int .i64 (rto r163 b r162)), (.bool (rbad r163 b r162))] :: .blk g58 71 #[(.int .i64 F), (.int .i64 C), (.int .i64 r168), (.int .i64 r68), (.int .i64 (wr ((((r68 % 18446744073709551616) + (rnum r63 b r62)) % 18446744073709551616)))), (.int .i64 r68), (.int .i64 r68)] :: rowT 71 aggE vo out :: L) := hst
        exact go_plain (op_add (k := .u64) (a := (r68 % 18446744073709551616)) (b := (rnum r163 b r162)) (((r68 % 18446744073709551616) + (rnum r163 b r162)) % 18446744073709551616) f98 f100 (IntKind.wrap_u64 _) (kN0 (i := 5) hM174 (by decide) (by exact hJ225) (by exact rfl)))
      · rintro D227 ρ228 w229 hD230 hE231 hC232 hJ233 hA234 ⟨f101, _⟩
        have hst := hJ233.2.2.1 (hC232 5 4 (hE231 5 (by kernel_rfl)) (by kernel_rfl)) (not_yet hD230 (fun hm => (hC232 8 6 hm (by kernel_rfl))))
        replace hst : St w0 w229 (.blk g_c 66 #[(.string (str b)), (.int .i64 (rto r163 b r162)), (.bool (rbad r163 b r162))] :: .blk g58 71 #[(.int .i64 F), (.int .i64 C), (.int .i64 r168), (.int .i64 r68), (.int .i64 (wr ((((r68 % 18446744073709551616) + (rnum r63 b r62)) % 18446744073709551616)))), (.int .i64 r68), (.int .i64 r68)] :: rowT 71 aggE vo out :: L) := hst
        exact go_plain (op_conv (k := .u64) (a := (((r68 % 18446744073709551616) + (rnum r163 b r162)) % 18446744073709551616)) (wr ((((r68 % 18446744073709551616) + (rnum r163 b r162)) % 18446744073709551616))) Try.underlying2 (by rw [Try.underlying54]; rfl) f101 rfl (kN0 (i := 6) hM174 (by decide) (by exact hJ233) (by exact rfl)))
      · rintro D235 ρ236 w237 hD238 hE239 hC240 hJ241 hA242 ⟨f10, _⟩
        have hst := hJ241.2.2.1 (hE239 4 (by kernel_rfl)) (not_yet hD238 (fun hm => (hC240 8 7 hm (by kernel_rfl))))
        replace hst : St w0 w237 (.blk g_c 66 #[(.string (str b)), (.int .i64 (rto r163 b r162)), (.bool (rbad r163 b r162))] :: .blk g58 71 #[(.int .i64 F), (.int .i64 C), (.int .i64 r168), (.int .i64 r68), (.int .i64 (wr ((((r68 % 18446744073709551616) + (rnum r63 b r62)) % 18446744073709551616)))), (.int .i64 r68), (.int .i64 r68)] :: rowT 71 aggE vo out :: L) := hst
        exact go_plain (op_fieldAddr (s := 0) Try.underlying71 rfl rfl Try.sizeOf2 (f10.trans uw160_10) (kN0 (i := 7) hM174 (by decide) (by exact hJ241) (by exact rfl)))
      · rintro D243 ρ244 w245 hD246 hE247 hC248 hJ249 hA250 ⟨f103, f102, _⟩
        have hst := hJ249.2.2.1 (hE247 4 (by kernel_rfl)) hD246
        replace hst : St w0 w245 (.blk g_c 66 #[(.string (str b)), (.int .i64 (rto r163 b r162)), (.bool (rbad r163 b r162))] :: .blk g58 71 #[(.int .i64 F), (.int .i64 C), (.int .i64 r168), (.int .i64 r68), (.int .i64 (wr ((((r68 % 18446744073709551616) + (rnum r63 b r62)) % 18446744073709551616)))), (.int .i64 r68), (.int .i64 r68)] :: rowT 71 aggE vo out :: L) := hst
        refine go_plain (op_store1 hst 1 rfl Try.sizeOf2 f103 f102 rfl (show 5 < 7 from by decide) (fun w251 hst => ?_))
        replace hst : St w0 w251 (.blk g_c 66 #[(.string (str b)), (.int .i64 (rto r163 b r162)), (.bool (rbad r163 b r162))] :: .blk g58 71 #[(.int .i64 F), (.int .i64 C), (.int .i64 r168), (.int .i64 r68), (.int .i64 (wr ((((r68 % 18446744073709551616) + (rnum r63 b r62)) % 18446744073709551616)))), (.int .i64 (wr ((((r68 % 18446744073709551616) + (rnum r163 b r162)) % 18446744073709551616)))), (.int .i64 r68)] :: rowT 71 aggE vo out :: L) := hst
        have hI252 : stabIXs 8 [] D243 0 [(kEq (.pointer (some ⟨g58, (0 + 3), none⟩))), (kEq (.int .i64 r68)), (kEq (.int .u64 (r68 % 18446744073709551616))), (kEq (.pointer (some ⟨g_c, 0, none⟩))), (kEq (.int .u64 (rnum r163 b r162))), (kEq (.int .u64 (((r68 % 18446744073709551616) + (rnum r163 b r162)) % 18446744073709551616))), (kEq (.int .i64 (wr ((((r68 % 18446744073709551616) + (rnum r163 b r162)) % 18446744073709551616))))), (kEq (.pointer (some ⟨g58, (0 + 5), none⟩))), kAny] := ⟨Or.inr (Or.inr (Or.inr iEq)), Or.inr (Or.inr (Or.inr iEq)), Or.inr (Or.inr (Or.inr iEq)), Or.inr (Or.inr (Or.inr iEq)), Or.inr (Or.inr (Or.inr iEq)), Or.inr (Or.inr (Or.inr iEq)), Or.inr (Or.inr (Or.inr iEq)), Or.inr (Or.inr (Or.inr iEq)), Or.inl rfl, trivial⟩
        refine ⟨by exact ⟨hst.sub (.cons _ (.cons _ (.cons_cons _ (List.Sublist.refl _)))), (fun y0 => absurd (show D243 4 = false from y0) (by rw [(hE247 4 (by kernel_rfl))]; decide)), (fun y0 y1 => absurd y1 (fun h => Bool.noConfusion h)), (fun y0 => hst.sub (.cons_cons _ (.cons_cons _ (.cons_cons _ (List.Sublist.refl _)))))⟩, by exact trivial, kX [] hI252 ?_⟩
        intro j d hj; cases hj
      intro ρ253 w254 Dw254 hallw254 hJw254 hRw254 hkw254
      have hst : St w0 w254 (.blk g_c 66 #[(.string (str b)), (.int .i64 (rto r163 b r162)), (.bool (rbad r163 b r162))] :: .blk g58 71 #[(.int .i64 F), (.int .i64 C), (.int .i64 r168), (.int .i64 r68), (.int .i64 (wr ((((r68 % 18446744073709551616) + (rnum r63 b r62)) % 18446744073709551616)))), (.int .i64 (wr ((((r68 % 18446744073709551616) + (rnum r163 b r162)) % 18446744073709551616)))), (.int .i64 r68)] :: rowT 71 aggE vo out :: L) := hJw254.2.2.2 (hallw254 8 (show 8 < 9 from by decide))
      have uw254_0 : ρ253 0 = (.pointer (some ⟨g_c, 0, none⟩)) := (hkw254 0 rfl).trans uw160_0
      have uw254_1 : ρ253 1 = (.int .i64 k) := (hkw254 1 rfl).trans uw160_1
      have uw254_4 : ρ253 4 = (.slice none 0 0) := (hkw254 4 rfl).trans uw160_4
      have uw254_5 : ρ253 5 = (.int .u64 r1) := (hkw254 5 rfl).trans uw160_5
      have uw254_7 : ρ253 7 = (.int .u64 ((widthA k) % 18446744073709551616)) := (hkw254 7 rfl).trans uw160_7
      have uw254_6 : ρ253 6 = vo := (hkw254 6 rfl).trans uw160_6
      have uw254_8 : ρ253 8 = (.int .i64 (i : Int)) := (hkw254 8 rfl).trans uw160_8
      have uw254_9 : ρ253 9 = (.int .u64 X) := (hkw254 9 rfl).trans uw160_9
      have uw254_55 : ρ253 55 = (.int .u64 X) := (hkw254 55 rfl).trans uw160_55
      have uw254_56 : ρ253 56 = (.int .u64 ((widthA k) % 18446744073709551616)) := (hkw254 56 rfl).trans uw160_56
      have uw254_57 : ρ253 57 = (.int .u64 ((X * ((widthA k) % 18446744073709551616)) % 18446744073709551616)) := (hkw254 57 rfl).trans uw160_57
      have uw254_58 : ρ253 58 = (.int .i64 F) := (hkw254 58 rfl).trans uw160_58
      have uw254_59 : ρ253 59 = (.pointer (some ⟨g_c, 0, none⟩)) := (hkw254 59 rfl).trans uw160_59
      have uw254_60 : ρ253 60 = (.int .u64 r51) := (hkw254 60 rfl).trans uw160_60
      have uw254_61 : ρ253 61 = (.int .u64 (r51 % 4611686018427387904)) := (hkw254 61 rfl).trans uw160_61
      have uw254_62 : ρ253 62 = (.int .i64 (r51 % 4611686018427387904)) := (hkw254 62 rfl).trans uw160_62
      have uw254_63 : ρ253 63 = (.int .i64 C) := (hkw254 63 rfl).trans uw160_63
      have uw254_64 : ρ253 64 = (.agg #[(.int .i64 F), (.int .i64 C), (.int .i64 0), (.int .i64 0), (.int .i64 0), (.int .i64 0), (.int .i64 0)]) := (hkw254 64 rfl).trans uw160_64
      have uw254_10 : ρ253 10 = (.pointer (some ⟨g58, 0, none⟩)) := (hkw254 10 rfl).trans uw160_10
      have uw254_65 : ρ253 65 = (.pointer (some ⟨g_c, 0, none⟩)) := (hkw254 65 rfl).trans uw160_65
      have uw254_66 : ρ253 66 = (.int .u64 r61) := (hkw254 66 rfl).trans uw160_66
      have uw254_67 : ρ253 67 = (.int .i64 r68) := (hkw254 67 rfl).trans uw160_67
      have uw254_68 : ρ253 68 = (.pointer (some ⟨g58, (0 + 3), none⟩)) := (hkw254 68 rfl).trans uw160_68
      have uw254_69 : ρ253 69 = (.pointer (some ⟨g58, (0 + 3), none⟩)) := (hkw254 69 rfl).trans uw160_69
      have uw254_70 : ρ253 70 = (.int .i64 r68) := (hkw254 70 rfl).trans uw160_70
      have uw254_71 : ρ253 71 = (.pointer (some ⟨g58, (0 + 3), none⟩)) := (hkw254 71 rfl).trans uw160_71
      have uw254_72 : ρ253 72 = (.int .i64 r68) := (hkw254 72 rfl).trans uw160_72
      have uw254_73 : ρ253 73 = (.pointer (some ⟨g58, (0 + 3), none⟩)) := (hkw254 73 rfl).trans uw160_73
      have uw254_74 : ρ253 74 = (.int .i64 r68) := (hkw254 74 rfl).trans uw160_74
      have uw254_75 : ρ253 75 = (.pointer (some ⟨g58, (0 + 3), none⟩)) := (hkw254 75 rfl).trans uw160_75
      have uw254_76 : ρ253 76 = (.int .i64 r68) := (hkw254 76 rfl).trans uw160_76
      have uw254_77 : ρ253 77 = (.pointer (some ⟨g58, (0 + 2), none⟩)) := (hkw254 77 rfl).trans uw160_77
      have uw254_78 : ρ253 78 = (.pointer (some ⟨g58, (0 + 4), none⟩)) := (hkw254 78 rfl).trans uw160_78
      have uw254_79 : ρ253 79 = (.pointer (some ⟨g58, (0 + 5), none⟩)) := (hkw254 79 rfl).trans uw160_79
      have uw254_80 : ρ253 80 = (.pointer (some ⟨g58, (0 + 6), none⟩)) := (hkw254 80 rfl).trans uw160_80
      have uw254_81 : ρ253 81 = (.pointer (some ⟨g58, (0 + 1), none⟩)) := (hkw254 81 rfl).trans uw160_81
      have uw254_82 : ρ253 82 = (.int .i64 C) := (hkw254 82 rfl).trans uw160_82
      have uw254_83 : ρ253 83 = (.bool (decide (1 < C))) := (hkw254 83 rfl).trans uw160_83
      have uw254_92 : ρ253 92 = (.pointer (some ⟨g_c, 0, none⟩)) := (hkw254 92 rfl).trans rfl
      have uw254_93 : ρ253 93 = (.int .u64 r161) := (hkw254 93 rfl).trans rfl
      have uw254_94 : ρ253 94 = (.int .i64 r168) := (hkw254 94 rfl).trans rfl
      have uw254_95 : ρ253 95 = (.pointer (some ⟨g58, (0 + 2), none⟩)) := (hkw254 95 rfl).trans rfl
      refine then_n ?_
      have hM257 : stabML [4, 8] [(kEq (.pointer (some ⟨g58, (0 + 3), none⟩))), (kEq (.int .i64 r68)), (kEq (.int .u64 (r68 % 18446744073709551616))), (kEq (.pointer (some ⟨g_c, 0, none⟩))), (kEq (.int .u64 (rnum (rbad r163 b r162) b (rto r163 b r162)))), (kEq (.int .u64 (((r68 % 18446744073709551616) + (rnum (rbad r163 b r162) b (rto r163 b r162))) % 18446744073709551616))), (kEq (.int .i64 (wr ((((r68 % 18446744073709551616) + (rnum (rbad r163 b r162) b (rto r163 b r162))) % 18446744073709551616))))), (kEq (.pointer (some ⟨g58, (0 + 6), none⟩))), kAny] := ⟨mEq, mEq, mEq, mEq, mEq, mEq, mEq, mEq, mAny, trivial⟩
      refine cE_regionK (fun (D : Nat → Bool) (w : World) => St w0 w (rowT 71 aggE vo out :: L) ∧ (D 4 = false → St w0 w (.blk g_c 66 #[(.string (str b)), (.int .i64 (rto r163 b r162)), (.bool (rbad r163 b r162))] :: .blk g58 71 #[(.int .i64 F), (.int .i64 C), (.int .i64 r168), (.int .i64 r68), (.int .i64 (wr ((((r68 % 18446744073709551616) + (rnum r63 b r62)) % 18446744073709551616)))), (.int .i64 (wr ((((r68 % 18446744073709551616) + (rnum r163 b r162)) % 18446744073709551616)))), (.int .i64 r68)] :: rowT 71 aggE vo out :: L)) ∧ (D 4 = true → D 8 = false → St w0 w (.blk g_c 66 #[(.string (str b)), (.int .i64 (rto (rbad r163 b r162) b (rto r163 b r162))), (.bool (rbad (rbad r163 b r162) b (rto r163 b r162)))] :: .blk g58 71 #[(.int .i64 F), (.int .i64 C), (.int .i64 r168), (.int .i64 r68), (.int .i64 (wr ((((r68 % 18446744073709551616) + (rnum r63 b r62)) % 18446744073709551616)))), (.int .i64 (wr ((((r68 % 18446744073709551616) + (rnum r163 b r162)) % 18446744073709551616)))), (.int .i64 r68)] :: rowT 71 aggE vo out :: L)) ∧ (D 8 = true → St w0 w (.blk g_c 66 #[(.string (str b)), (.int .i64 (rto (rbad r163 b r162) b (rto r163 b r162))), (.bool (rbad (rbad r163 b r162) b (rto r163 b r162)))] :: .blk g58 71 #[(.int .i64 F), (.int .i64 C), (.int .i64 r168), (.int .i64 r68), (.int .i64 (wr ((((r68 % 18446744073709551616) + (rnum r63 b r62)) % 18446744073709551616)))), (.int .i64 (wr ((((r68 % 18446744073709551616) + (rnum r163 b r162)) % 18446744073709551616)))), (.int .i64 (wr ((((r68 % 18446744073709551616) + (rnum (rbad r163 b r162) b (rto r163 b r162))) % 18446744073709551616))))] :: rowT 71 aggE vo out :: L))) [[(10, none)], [(104, some 0)], [(105, some 1)], [(0, none)], [(107, some 3)], [(106, some 2), (108, some 4)], [(109, some 5)], [(10, none)], [(111, some 7), (110, some 6)]] (RofK [(kEq (.pointer (some ⟨g58, (0 + 3), none⟩))), (kEq (.int .i64 r68)), (kEq (.int .u64 (r68 % 18446744073709551616))), (kEq (.pointer (some ⟨g_c, 0, none⟩))), (kEq (.int .u64 (rnum (rbad r163 b r162) b (rto r163 b r162)))), (kEq (.int .u64 (((r68 % 18446744073709551616) + (rnum (rbad r163 b r162) b (rto r163 b r162))) % 18446744073709551616))), (kEq (.int .i64 (wr ((((r68 % 18446744073709551616) + (rnum (rbad r163 b r162) b (rto r163 b r162))) % 18446744073709551616))))), (kEq (.pointer (some ⟨g58, (0 + 6), none⟩))), kAny]) (by kernel_rfl) rfl (by kernel_rfl) ⟨hst.drewW.sub (.cons _ (.cons _ (.cons_cons _ (List.Sublist.refl _)))), (fun _ => hst.drewW), (fun h => absurd h Bool.false_ne_true), (fun h => absurd h Bool.false_ne_true)⟩ ⟨?_, ?_, ?_, ?_, ?_, ?_, ?_, ?_, ?_, trivial⟩ ?_
      · rintro D259 ρ260 w261 hD262 hE263 hC264 hJ265 hA266 ⟨f10, _⟩
        have hst := hJ265.1
        exact go_plain (op_fieldAddr (s := 0) Try.underlying71 rfl rfl Try.sizeOf2 (f10.trans uw254_10) (kN0 (i := 0) hM257 (by decide) (by exact hJ265) (by exact rfl)))
      · rintro D267 ρ268 w269 hD270 hE271 hC272 hJ273 hA274 ⟨f104, _⟩
        rcases Bool.eq_false_or_eq_true (D267 4) with hY275 | hY275
        · have hst := hJ273.2.2.1 hY275 (not_yet hD270 (fun hm => (hC272 8 1 hm (by kernel_rfl))))
          replace hst : St w0 w269 (.blk g_c 66 #[(.string (str b)), (.int .i64 (rto (rbad r163 b r162) b (rto r163 b r162))), (.bool (rbad (rbad r163 b r162) b (rto r163 b r162)))] :: .blk g58 71 #[(.int .i64 F), (.int .i64 C), (.int .i64 r168), (.int .i64 r68), (.int .i64 (wr ((((r68 % 18446744073709551616) + (rnum r63 b r62)) % 18446744073709551616)))), (.int .i64 (wr ((((r68 % 18446744073709551616) + (rnum r163 b r162)) % 18446744073709551616)))), (.int .i64 r68)] :: rowT 71 aggE vo out :: L) := hst
          exact go_plain (op_load1 (u := (.int .i64 r68)) Try.isAgg2 f104 ((hst.cell 1 rfl).drop 3) (kN0 (i := 1) hM257 (by decide) (by exact hJ273) (by exact rfl)))
        · have hst := hJ273.2.1 hY275
          replace hst : St w0 w269 (.blk g_c 66 #[(.string (str b)), (.int .i64 (rto r163 b r162)), (.bool (rbad r163 b r162))] :: .blk g58 71 #[(.int .i64 F), (.int .i64 C), (.int .i64 r168), (.int .i64 r68), (.int .i64 (wr ((((r68 % 18446744073709551616) + (rnum r63 b r62)) % 18446744073709551616)))), (.int .i64 (wr ((((r68 % 18446744073709551616) + (rnum r163 b r162)) % 18446744073709551616)))), (.int .i64 r68)] :: rowT 71 aggE vo out :: L) := hst
          exact go_plain (op_load1 (u := (.int .i64 r68)) Try.isAgg2 f104 ((hst.cell 1 rfl).drop 3) (kN0 (i := 1) hM257 (by decide) (by exact hJ273) (by exact rfl)))
      · rintro D276 ρ277 w278 hD279 hE280 hC281 hJ282 hA283 ⟨f105, _⟩
        have hst := hJ282.1
        exact go_plain (op_conv (k := .i64) (a := r68) (r68 % 18446744073709551616) Try.underlying54 (by rw [Try.underlying2]; rfl) f105 (IntKind.wrap_u64 _) (kN0 (i := 2) hM257 (by decide) (by exact hJ282) (by exact rfl)))
      · rintro D284 ρ285 w286 hD287 hE288 hC289 hJ290 hA291 ⟨f0, _⟩
        have hst := hJ290.2.1 (not_yet hD287 (fun hm => (hC289 4 3 hm (by kernel_rfl))))
        replace hst : St w0 w286 (.blk g_c 66 #[(.string (str b)), (.int .i64 (rto r163 b r162)), (.bool (rbad r163 b r162))] :: .blk g58 71 #[(.int .i64 F), (.int .i64 C), (.int .i64 r168), (.int .i64 r68), (.int .i64 (wr ((((r68 % 18446744073709551616) + (rnum r63 b r62)) % 18446744073709551616)))), (.int .i64 (wr ((((r68 % 18446744073709551616) + (rnum r163 b r162)) % 18446744073709551616)))), (.int .i64 r68)] :: rowT 71 aggE vo out :: L) := hst
        exact go_plain (op_move (.pointer (some ⟨g_c, 0, none⟩)) (f0.trans uw254_0) (kN0 (i := 3) hM257 (by decide) (by exact hJ290) (by exact rfl)))
      · rintro D292 ρ293 w294 hD295 hE296 hC297 hJ298 hA299 ⟨f107, _⟩
        have hst := hJ298.2.1 hD295
        replace hst : St w0 w294 (.blk g_c 66 #[(.string (str b)), (.int .i64 (rto r163 b r162)), (.bool (rbad r163 b r162))] :: .blk g58 71 #[(.int .i64 F), (.int .i64 C), (.int .i64 r168), (.int .i64 r68), (.int .i64 (wr ((((r68 % 18446744073709551616) + (rnum r63 b r62)) % 18446744073709551616)))), (.int .i64 (wr ((((r68 % 18446744073709551616) + (rnum r163 b r162)) % 18446744073709551616)))), (.int .i64 r68)] :: rowT 71 aggE vo out :: L) := hst
        refine go_plain (op_call Try.call41 (evs_cons (v := (.pointer (some ⟨g_c, 0, none⟩))) f107 evs_nil) (c_cNum (g_c := g_c) (b := b) (at_ := (rto r163 b r162)) (bad := (rbad r163 b r162)) (hl := hl) (hst := hst)) ?_)
        rintro _ w300 ⟨rfl, hcall⟩
        refine ⟨_, rfl, ?_⟩
        have hst : St w0 w300 (.blk g_c 66 #[(.string (str b)), (.int .i64 (rto (rbad r163 b r162) b (rto r163 b r162))), (.bool (rbad (rbad r163 b r162) b (rto r163 b r162)))] :: .blk g58 71 #[(.int .i64 F), (.int .i64 C), (.int .i64 r168), (.int .i64 r68), (.int .i64 (wr ((((r68 % 18446744073709551616) + (rnum r63 b r62)) % 18446744073709551616)))), (.int .i64 (wr ((((r68 % 18446744073709551616) + (rnum r163 b r162)) % 18446744073709551616)))), (.int .i64 r68)] :: rowT 71 aggE vo out :: L) := hcall
        have hI301 : stabIXs 4 [] D292 0 [(kEq (.pointer (some ⟨g58, (0 + 3), none⟩))), (kEq (.int .i64 r68)), (kEq (.int .u64 (r68 % 18446744073709551616))), (kEq (.pointer (some ⟨g_c, 0, none⟩))), (kEq (.int .u64 (rnum (rbad r163 b r162) b (rto r163 b r162)))), (kEq (.int .u64 (((r68 % 18446744073709551616) + (rnum (rbad r163 b r162) b (rto r163 b r162))) % 18446744073709551616))), (kEq (.int .i64 (wr ((((r68 % 18446744073709551616) + (rnum (rbad r163 b r162) b (rto r163 b r162))) % 18446744073709551616))))), (kEq (.pointer (some ⟨g58, (0 + 6), none⟩))), kAny] := ⟨Or.inr (Or.inr (Or.inr iEq)), Or.inr (Or.inr (Or.inr iEq)), Or.inr (Or.inr (Or.inr iEq)), Or.inr (Or.inr (Or.inr iEq)), Or.inl rfl, Or.inr (Or.inr (Or.inl (not_yet hD295 (fun hm => (hC297 5 4 hm (by kernel_rfl)))))), Or.inr (Or.inr (Or.inl (not_yet hD295 (fun hm => (hC297 5 4 (hC297 6 5 hm (by kernel_rfl)) (by kernel_rfl)))))), Or.inr (Or.inr (Or.inl (not_yet hD295 (fun hm => (hC297 7 4 hm (by kernel_rfl)))))), Or.inr (Or.inr (Or.inl (not_yet hD295 (fun hm => (hC297 8 4 hm (by kernel_rfl)))))), trivial⟩
        refine ⟨by exact ⟨hst.sub (.cons _ (.cons _ (.cons_cons _ (List.Sublist.refl _)))), (fun y0 => absurd y0 (fun h => Bool.noConfusion h)), (fun y0 y1 => hst.sub (.cons_cons _ (.cons_cons _ (.cons_cons _ (List.Sublist.refl _))))), (fun y0 => absurd (show D292 8 = true from y0) (by rw [(not_yet hD295 (fun hm => (hC297 8 4 hm (by kernel_rfl))))]; decide))⟩, by exact rfl, kX [] hI301 ?_⟩
        intro j d hj; cases hj
      · rintro D302 ρ303 w304 hD305 hE306 hC307 hJ308 hA309 ⟨f106, f108, _⟩
        have hst := hJ308.2.2.1 (hE306 4 (by kernel_rfl)) (not_yet hD305 (fun hm => (hC307 8 5 hm (by kernel_rfl))))
        replace hst : St w0 w304 (.blk g_c 66 #[(.string (str b)), (.int .i64 (rto (rbad r163 b r162) b (rto r163 b r162))), (.bool (rbad (rbad r163 b r162) b (rto r163 b r162)))] :: .blk g58 71 #[(.int .i64 F), (.int .i64 C), (.int .i64 r168), (.int .i64 r68), (.int .i64 (wr ((((r68 % 18446744073709551616) + (rnum r63 b r62)) % 18446744073709551616)))), (.int .i64 (wr ((((r68 % 18446744073709551616) + (rnum r163 b r162)) % 18446744073709551616)))), (.int .i64 r68)] :: rowT 71 aggE vo out :: L) := hst
        exact go_plain (op_add (k := .u64) (a := (r68 % 18446744073709551616)) (b := (rnum (rbad r163 b r162) b (rto r163 b r162))) (((r68 % 18446744073709551616) + (rnum (rbad r163 b r162) b (rto r163 b r162))) % 18446744073709551616) f106 f108 (IntKind.wrap_u64 _) (kN0 (i := 5) hM257 (by decide) (by exact hJ308) (by exact rfl)))
      · rintro D310 ρ311 w312 hD313 hE314 hC315 hJ316 hA317 ⟨f109, _⟩
        have hst := hJ316.2.2.1 (hC315 5 4 (hE314 5 (by kernel_rfl)) (by kernel_rfl)) (not_yet hD313 (fun hm => (hC315 8 6 hm (by kernel_rfl))))
        replace hst : St w0 w312 (.blk g_c 66 #[(.string (str b)), (.int .i64 (rto (rbad r163 b r162) b (rto r163 b r162))), (.bool (rbad (rbad r163 b r162) b (rto r163 b r162)))] :: .blk g58 71 #[(.int .i64 F), (.int .i64 C), (.int .i64 r168), (.int .i64 r68), (.int .i64 (wr ((((r68 % 18446744073709551616) + (rnum r63 b r62)) % 18446744073709551616)))), (.int .i64 (wr ((((r68 % 18446744073709551616) + (rnum r163 b r162)) % 18446744073709551616)))), (.int .i64 r68)] :: rowT 71 aggE vo out :: L) := hst
        exact go_plain (op_conv (k := .u64) (a := (((r68 % 18446744073709551616) + (rnum (rbad r163 b r162) b (rto r163 b r162))) % 18446744073709551616)) (wr ((((r68 % 18446744073709551616) + (rnum (rbad r163 b r162) b (rto r163 b r162))) % 18446744073709551616))) Try.underlying2 (by rw [Try.underlying54]; rfl) f109 rfl (kN0 (i := 6) hM257 (by decide) (by exact hJ316) (by exact rfl)))
      · rintro D318 ρ319 w320 hD321 hE322 hC323 hJ324 hA325 ⟨f10, _⟩
        have hst := hJ324.2.2.1 (hE322 4 (by kernel_rfl)) (not_yet hD321 (fun hm => (hC323 8 7 hm (by kernel_rfl))))
        replace hst : St w0 w320 (.blk g_c 66 #[(.string (str b)), (.int .i64 (rto (rbad r163 b r162) b (rto r163 b r162))), (.bool (rbad (rbad r163 b r162) b (rto r163 b r162)))] :: .blk g58 71 #[(.int .i64 F), (.int .i64 C), (.int .i64 r168), (.int .i64 r68), (.int .i64 (wr ((((r68 % 18446744073709551616) + (rnum r63 b r62)) % 18446744073709551616)))), (.int .i64 (wr ((((r68 % 18446744073709551616) + (rnum r163 b r162)) % 18446744073709551616)))), (.int .i64 r68)] :: rowT 71 aggE vo out :: L) := hst
        exact go_plain (op_fieldAddr (s := 0) Try.underlying71 rfl rfl Try.sizeOf2 (f10.trans uw254_10) (kN0 (i := 7) hM257 (by decide) (by exact hJ324) (by exact rfl)))
      · rintro D326 ρ327 w328 hD329 hE330 hC331 hJ332 hA333 ⟨f111, f110, _⟩
        have hst := hJ332.2.2.1 (hE330 4 (by kernel_rfl)) hD329
        replace hst : St w0 w328 (.blk g_c 66 #[(.string (str b)), (.int .i64 (rto (rbad r163 b r162) b (rto r163 b r162))), (.bool (rbad (rbad r163 b r162) b (rto r163 b r162)))] :: .blk g58 71 #[(.int .i64 F), (.int .i64 C), (.int .i64 r168), (.int .i64 r68), (.int .i64 (wr ((((r68 % 18446744073709551616) + (rnum r63 b r62)) % 18446744073709551616)))), (.int .i64 (wr ((((r68 % 18446744073709551616) + (rnum r163 b r162)) % 18446744073709551616)))), (.int .i64 r68)] :: rowT 71 aggE vo out :: L) := hst
        refine go_plain (op_store1 hst 1 rfl Try.sizeOf2 f111 f110 rfl (show 6 < 7 from by decide) (fun w334 hst => ?_))
        replace hst : St w0 w334 (.blk g_c 66 #[(.string (str b)), (.int .i64 (rto (rbad r163 b r162) b (rto r163 b r162))), (.bool (rbad (rbad r163 b r162) b (rto r163 b r162)))] :: .blk g58 71 #[(.int .i64 F), (.int .i64 C), (.int .i64 r168), (.int .i64 r68), (.int .i64 (wr ((((r68 % 18446744073709551616) + (rnum r63 b r62)) % 18446744073709551616)))), (.int .i64 (wr ((((r68 % 18446744073709551616) + (rnum r163 b r162)) % 18446744073709551616)))), (.int .i64 (wr ((((r68 % 18446744073709551616) + (rnum (rbad r163 b r162) b (rto r163 b r162))) % 18446744073709551616))))] :: rowT 71 aggE vo out :: L) := hst
        have hI335 : stabIXs 8 [] D326 0 [(kEq (.pointer (some ⟨g58, (0 + 3), none⟩))), (kEq (.int .i64 r68)), (kEq (.int .u64 (r68 % 18446744073709551616))), (kEq (.pointer (some ⟨g_c, 0, none⟩))), (kEq (.int .u64 (rnum (rbad r163 b r162) b (rto r163 b r162)))), (kEq (.int .u64 (((r68 % 18446744073709551616) + (rnum (rbad r163 b r162) b (rto r163 b r162))) % 18446744073709551616))), (kEq (.int .i64 (wr ((((r68 % 18446744073709551616) + (rnum (rbad r163 b r162) b (rto r163 b r162))) % 18446744073709551616))))), (kEq (.pointer (some ⟨g58, (0 + 6), none⟩))), kAny] := ⟨Or.inr (Or.inr (Or.inr iEq)), Or.inr (Or.inr (Or.inr iEq)), Or.inr (Or.inr (Or.inr iEq)), Or.inr (Or.inr (Or.inr iEq)), Or.inr (Or.inr (Or.inr iEq)), Or.inr (Or.inr (Or.inr iEq)), Or.inr (Or.inr (Or.inr iEq)), Or.inr (Or.inr (Or.inr iEq)), Or.inl rfl, trivial⟩
        refine ⟨by exact ⟨hst.sub (.cons _ (.cons _ (.cons_cons _ (List.Sublist.refl _)))), (fun y0 => absurd (show D326 4 = false from y0) (by rw [(hE330 4 (by kernel_rfl))]; decide)), (fun y0 y1 => absurd y1 (fun h => Bool.noConfusion h)), (fun y0 => hst.sub (.cons_cons _ (.cons_cons _ (.cons_cons _ (List.Sublist.refl _)))))⟩, by exact trivial, kX [] hI335 ?_⟩
        intro j d hj; cases hj
      intro ρ336 w337 Dw337 hallw337 hJw337 hRw337 hkw337
      have hst : St w0 w337 (.blk g_c 66 #[(.string (str b)), (.int .i64 (rto (rbad r163 b r162) b (rto r163 b r162))), (.bool (rbad (rbad r163 b r162) b (rto r163 b r162)))] :: .blk g58 71 #[(.int .i64 F), (.int .i64 C), (.int .i64 r168), (.int .i64 r68), (.int .i64 (wr ((((r68 % 18446744073709551616) + (rnum r63 b r62)) % 18446744073709551616)))), (.int .i64 (wr ((((r68 % 18446744073709551616) + (rnum r163 b r162)) % 18446744073709551616)))), (.int .i64 (wr ((((r68 % 18446744073709551616) + (rnum (rbad r163 b r162) b (rto r163 b r162))) % 18446744073709551616))))] :: rowT 71 aggE vo out :: L) := hJw337.2.2.2 (hallw337 8 (show 8 < 9 from by decide))
      have uw337_0 : ρ336 0 = (.pointer (some ⟨g_c, 0, none⟩)) := (hkw337 0 rfl).trans uw254_0
      have uw337_1 : ρ336 1 = (.int .i64 k) := (hkw337 1 rfl).trans uw254_1
      have uw337_4 : ρ336 4 = (.slice none 0 0) := (hkw337 4 rfl).trans uw254_4
      have uw337_5 : ρ336 5 = (.int .u64 r1) := (hkw337 5 rfl).trans uw254_5
      have uw337_7 : ρ336 7 = (.int .u64 ((widthA k) % 18446744073709551616)) := (hkw337 7 rfl).trans uw254_7
      have uw337_6 : ρ336 6 = vo := (hkw337 6 rfl).trans uw254_6
      have uw337_8 : ρ336 8 = (.int .i64 (i : Int)) := (hkw337 8 rfl).trans uw254_8
      have uw337_9 : ρ336 9 = (.int .u64 X) := (hkw337 9 rfl).trans uw254_9
      have uw337_55 : ρ336 55 = (.int .u64 X) := (hkw337 55 rfl).trans uw254_55
      have uw337_56 : ρ336 56 = (.int .u64 ((widthA k) % 18446744073709551616)) := (hkw337 56 rfl).trans uw254_56
      have uw337_57 : ρ336 57 = (.int .u64 ((X * ((widthA k) % 18446744073709551616)) % 18446744073709551616)) := (hkw337 57 rfl).trans uw254_57
      have uw337_58 : ρ336 58 = (.int .i64 F) := (hkw337 58 rfl).trans uw254_58
      have uw337_59 : ρ336 59 = (.pointer (some ⟨g_c, 0, none⟩)) := (hkw337 59 rfl).trans uw254_59
      have uw337_60 : ρ336 60 = (.int .u64 r51) := (hkw337 60 rfl).trans uw254_60
      have uw337_61 : ρ336 61 = (.int .u64 (r51 % 4611686018427387904)) := (hkw337 61 rfl).trans uw254_61
      have uw337_62 : ρ336 62 = (.int .i64 (r51 % 4611686018427387904)) := (hkw337 62 rfl).trans uw254_62
      have uw337_63 : ρ336 63 = (.int .i64 C) := (hkw337 63 rfl).trans uw254_63
      have uw337_64 : ρ336 64 = (.agg #[(.int .i64 F), (.int .i64 C), (.int .i64 0), (.int .i64 0), (.int .i64 0), (.int .i64 0), (.int .i64 0)]) := (hkw337 64 rfl).trans uw254_64
      have uw337_10 : ρ336 10 = (.pointer (some ⟨g58, 0, none⟩)) := (hkw337 10 rfl).trans uw254_10
      have uw337_65 : ρ336 65 = (.pointer (some ⟨g_c, 0, none⟩)) := (hkw337 65 rfl).trans uw254_65
      have uw337_66 : ρ336 66 = (.int .u64 r61) := (hkw337 66 rfl).trans uw254_66
      have uw337_67 : ρ336 67 = (.int .i64 r68) := (hkw337 67 rfl).trans uw254_67
      have uw337_68 : ρ336 68 = (.pointer (some ⟨g58, (0 + 3), none⟩)) := (hkw337 68 rfl).trans uw254_68
      have uw337_69 : ρ336 69 = (.pointer (some ⟨g58, (0 + 3), none⟩)) := (hkw337 69 rfl).trans uw254_69
      have uw337_70 : ρ336 70 = (.int .i64 r68) := (hkw337 70 rfl).trans uw254_70
      have uw337_71 : ρ336 71 = (.pointer (some ⟨g58, (0 + 3), none⟩)) := (hkw337 71 rfl).trans uw254_71
      have uw337_72 : ρ336 72 = (.int .i64 r68) := (hkw337 72 rfl).trans uw254_72
      have uw337_73 : ρ336 73 = (.pointer (some ⟨g58, (0 + 3), none⟩)) := (hkw337 73 rfl).trans uw254_73
      have uw337_74 : ρ336 74 = (.int .i64 r68) := (hkw337 74 rfl).trans uw254_74
      have uw337_75 : ρ336 75 = (.pointer (some ⟨g58, (0 + 3), none⟩)) := (hkw337 75 rfl).trans uw254_75
      have uw337_76 : ρ336 76 = (.int .i64 r68) := (hkw337 76 rfl).trans uw254_76
      have uw337_77 : ρ336 77 = (.pointer (some ⟨g58, (0 + 2), none⟩)) := (hkw337 77 rfl).trans uw254_77
      have uw337_78 : ρ336 78 = (.pointer (some ⟨g58, (0 + 4), none⟩)) := (hkw337 78 rfl).trans uw254_78
      have uw337_79 : ρ336 79 = (.pointer (some ⟨g58, (0 + 5), none⟩)) := (hkw337 79 rfl).trans uw254_79
      have uw337_80 : ρ336 80 = (.pointer (some ⟨g58, (0 + 6), none⟩)) := (hkw337 80 rfl).trans uw254_80
      have uw337_81 : ρ336 81 = (.pointer (some ⟨g58, (0 + 1), none⟩)) := (hkw337 81 rfl).trans uw254_81
      have uw337_82 : ρ336 82 = (.int .i64 C) := (hkw337 82 rfl).trans uw254_82
      have uw337_83 : ρ336 83 = (.bool (decide (1 < C))) := (hkw337 83 rfl).trans uw254_83
      have uw337_92 : ρ336 92 = (.pointer (some ⟨g_c, 0, none⟩)) := (hkw337 92 rfl).trans uw254_92
      have uw337_93 : ρ336 93 = (.int .u64 r161) := (hkw337 93 rfl).trans uw254_93
      have uw337_94 : ρ336 94 = (.int .i64 r168) := (hkw337 94 rfl).trans uw254_94
      have uw337_95 : ρ336 95 = (.pointer (some ⟨g58, (0 + 2), none⟩)) := (hkw337 95 rfl).trans uw254_95
      refine then_n ?_
      refine cE_region rfl ?_
      refine s_cons (op_move vo uw337_6 ?_)
      refine s_cons (op_loadN (cs := [(.int .i64 F), (.int .i64 C), (.int .i64 r168), (.int .i64 r68), (.int .i64 (wr ((((r68 % 18446744073709551616) + (rnum r63 b r62)) % 18446744073709551616)))), (.int .i64 (wr ((((r68 % 18446744073709551616) + (rnum r163 b r162)) % 18446744073709551616)))), (.int .i64 (wr ((((r68 % 18446744073709551616) + (rnum (rbad r163 b r162) b (rto r163 b r162))) % 18446744073709551616))))]) Try.isAgg71 Try.sizeOf71 uw337_10 (Pt.of (hst.cell 1 rfl) rfl) rfl ?_)
      refine s_cons (op_buildSlice (E := aggE) [(⟨F, C, r168, r68, (wr ((((r68 % 18446744073709551616) + (rnum r63 b r62)) % 18446744073709551616))), (wr ((((r68 % 18446744073709551616) + (rnum r163 b r162)) % 18446744073709551616))), (wr ((((r68 % 18446744073709551616) + (rnum (rbad r163 b r162) b (rto r163 b r162))) % 18446744073709551616)))⟩ : Agg)] hst Try.underlying23 Try.sizeOf71 Try.zeroValue71 (evp_cons (v := (.agg #[(.int .i64 F), (.int .i64 C), (.int .i64 r168), (.int .i64 r68), (.int .i64 (wr ((((r68 % 18446744073709551616) + (rnum r63 b r62)) % 18446744073709551616)))), (.int .i64 (wr ((((r68 % 18446744073709551616) + (rnum r163 b r162)) % 18446744073709551616)))), (.int .i64 (wr ((((r68 % 18446744073709551616) + (rnum (rbad r163 b r162) b (rto r163 b r162))) % 18446744073709551616))))])) rfl evp_nil) (parts_cons rfl parts_nil) rfl (by decide) (fun v338 w339 hst => ?_))
      replace hst : St w0 w339 (rowT 71 aggE v338 ([(⟨F, C, r168, r68, (wr ((((r68 % 18446744073709551616) + (rnum r63 b r62)) % 18446744073709551616))), (wr ((((r68 % 18446744073709551616) + (rnum r163 b r162)) % 18446744073709551616))), (wr ((((r68 % 18446744073709551616) + (rnum (rbad r163 b r162) b (rto r163 b r162))) % 18446744073709551616)))⟩ : Agg)]) :: .blk g_c 66 #[(.string (str b)), (.int .i64 (rto (rbad r163 b r162) b (rto r163 b r162))), (.bool (rbad (rbad r163 b r162) b (rto r163 b r162)))] :: .blk g58 71 #[(.int .i64 F), (.int .i64 C), (.int .i64 r168), (.int .i64 r68), (.int .i64 (wr ((((r68 % 18446744073709551616) + (rnum r63 b r62)) % 18446744073709551616)))), (.int .i64 (wr ((((r68 % 18446744073709551616) + (rnum r163 b r162)) % 18446744073709551616)))), (.int .i64 (wr ((((r68 % 18446744073709551616) + (rnum (rbad r163 b r162) b (rto r163 b r162))) % 18446744073709551616))))] :: rowT 71 aggE vo out :: L) := hst
      refine s_cons (op_append (E := aggE) (xs := out) (ys := [(⟨F, C, r168, r68, (wr ((((r68 % 18446744073709551616) + (rnum r63 b r62)) % 18446744073709551616))), (wr ((((r68 % 18446744073709551616) + (rnum r163 b r162)) % 18446744073709551616))), (wr ((((r68 % 18446744073709551616) + (rnum (rbad r163 b r162) b (rto r163 b r162))) % 18446744073709551616)))⟩ : Agg)]) (z := (.agg #[(.int .i64 0), (.int .i64 0), (.int .i64 0), (.int .i64 0), (.int .i64 0), (.int .i64 0), (.int .i64 0)])) (bytes := 56) hst 3 rfl Try.underlying23 (by kernel_rfl) rfl rfl rfl (hst.sl 0 rfl) (by first | omega | (simp; omega) | (simp; done)) (by first | omega | (simp; omega) | (simp; done)) (fun v340 w341 hst => ?_))
      replace hst : St w0 w341 (rowT 71 aggE v338 ([(⟨F, C, r168, r68, (wr ((((r68 % 18446744073709551616) + (rnum r63 b r62)) % 18446744073709551616))), (wr ((((r68 % 18446744073709551616) + (rnum r163 b r162)) % 18446744073709551616))), (wr ((((r68 % 18446744073709551616) + (rnum (rbad r163 b r162) b (rto r163 b r162))) % 18446744073709551616)))⟩ : Agg)]) :: .blk g_c 66 #[(.string (str b)), (.int .i64 (rto (rbad r163 b r162) b (rto r163 b r162))), (.bool (rbad (rbad r163 b r162) b (rto r163 b r162)))] :: .blk g58 71 #[(.int .i64 F), (.int .i64 C), (.int .i64 r168), (.int .i64 r68), (.int .i64 (wr ((((r68 % 18446744073709551616) + (rnum r63 b r62)) % 18446744073709551616)))), (.int .i64 (wr ((((r68 % 18446744073709551616) + (rnum r163 b r162)) % 18446744073709551616)))), (.int .i64 (wr ((((r68 % 18446744073709551616) + (rnum (rbad r163 b r162) b (rto r163 b r162))) % 18446744073709551616))))] :: rowT 71 aggE v340 (out ++ ([(⟨F, C, r168, r68, (wr ((((r68 % 18446744073709551616) + (rnum r63 b r62)) % 18446744073709551616))), (wr ((((r68 % 18446744073709551616) + (rnum r163 b r162)) % 18446744073709551616))), (wr ((((r68 % 18446744073709551616) + (rnum (rbad r163 b r162) b (rto r163 b r162))) % 18446744073709551616)))⟩ : Agg)])) :: L) := hst
      refine s_cons (op_assign v340 rfl ?_)
      refine s_nil ?_
      refine block_n (then_n ?_)
      refine cE_region rfl ?_
      refine s_cons (op_move (.int .i64 (i : Int)) uw337_8 ?_)
      refine s_cons (op_add (k := .i64) (a := (i : Int)) (b := 1) ((i : Int) + 1) rfl rfl (xi64 (by omega) (by omega)) ?_)
      refine s_cons (op_assign (.int .i64 ((i : Int) + 1)) rfl ?_)
      refine s_nil ?_
      refine then_n ?_
      replace hst : St w0 w341 (.blk g_c 66 #[(.string (str b)), (.int .i64 (rto (rbad r163 b r162) b (rto r163 b r162))), (.bool (rbad (rbad r163 b r162) b (rto r163 b r162)))] :: rowT 71 aggE v338 ([(⟨F, C, r168, r68, (wr ((((r68 % 18446744073709551616) + (rnum r63 b r62)) % 18446744073709551616))), (wr ((((r68 % 18446744073709551616) + (rnum r163 b r162)) % 18446744073709551616))), (wr ((((r68 % 18446744073709551616) + (rnum (rbad r163 b r162) b (rto r163 b r162))) % 18446744073709551616)))⟩ : Agg)]) :: .blk g58 71 #[(.int .i64 F), (.int .i64 C), (.int .i64 r168), (.int .i64 r68), (.int .i64 (wr ((((r68 % 18446744073709551616) + (rnum r63 b r62)) % 18446744073709551616)))), (.int .i64 (wr ((((r68 % 18446744073709551616) + (rnum r163 b r162)) % 18446744073709551616)))), (.int .i64 (wr ((((r68 % 18446744073709551616) + (rnum (rbad r163 b r162) b (rto r163 b r162))) % 18446744073709551616))))] :: rowT 71 aggE v340 (out ++ ([(⟨F, C, r168, r68, (wr ((((r68 % 18446744073709551616) + (rnum r63 b r62)) % 18446744073709551616))), (wr ((((r68 % 18446744073709551616) + (rnum r163 b r162)) % 18446744073709551616))), (wr ((((r68 % 18446744073709551616) + (rnum (rbad r163 b r162) b (rto r163 b r162))) % 18446744073709551616)))⟩ : Agg)])) :: L) := hst.front 1 rfl
      replace hst : St w0 w341 (rowT 71 aggE v340 (out ++ ([(⟨F, C, r168, r68, (wr ((((r68 % 18446744073709551616) + (rnum r63 b r62)) % 18446744073709551616))), (wr ((((r68 % 18446744073709551616) + (rnum r163 b r162)) % 18446744073709551616))), (wr ((((r68 % 18446744073709551616) + (rnum (rbad r163 b r162) b (rto r163 b r162))) % 18446744073709551616)))⟩ : Agg)])) :: .blk g_c 66 #[(.string (str b)), (.int .i64 (rto (rbad r163 b r162) b (rto r163 b r162))), (.bool (rbad (rbad r163 b r162) b (rto r163 b r162)))] :: rowT 71 aggE v338 ([(⟨F, C, r168, r68, (wr ((((r68 % 18446744073709551616) + (rnum r63 b r62)) % 18446744073709551616))), (wr ((((r68 % 18446744073709551616) + (rnum r163 b r162)) % 18446744073709551616))), (wr ((((r68 % 18446744073709551616) + (rnum (rbad r163 b r162) b (rto r163 b r162))) % 18446744073709551616)))⟩ : Agg)]) :: .blk g58 71 #[(.int .i64 F), (.int .i64 C), (.int .i64 r168), (.int .i64 r68), (.int .i64 (wr ((((r68 % 18446744073709551616) + (rnum r63 b r62)) % 18446744073709551616)))), (.int .i64 (wr ((((r68 % 18446744073709551616) + (rnum r163 b r162)) % 18446744073709551616)))), (.int .i64 (wr ((((r68 % 18446744073709551616) + (rnum (rbad r163 b r162) b (rto r163 b r162))) % 18446744073709551616))))] :: L) := hst.front 3 rfl
      exact ⟨_, ⟨v340, (out ++ ([(⟨F, C, r168, r68, (wr ((((r68 % 18446744073709551616) + (rnum r63 b r62)) % 18446744073709551616))), (wr ((((r68 % 18446744073709551616) + (rnum r163 b r162)) % 18446744073709551616))), (wr ((((r68 % 18446744073709551616) + (rnum (rbad r163 b r162) b (rto r163 b r162))) % 18446744073709551616)))⟩ : Agg)])), (i + 1), (rto (rbad r163 b r162) b (rto r163 b r162)), (rbad (rbad r163 b r162) b (rto r163 b r162)), rfl, uw337_0, uw337_1, uw337_4, uw337_5, uw337_7, rfl, (congrArg (Value.int .i64) (show ((i : Int) + 1) = _ from by omega)), (hst.sub (.cons_cons _ (.cons_cons _ (.cons _ (.cons _ (List.Sublist.refl _)))))), (by first | exact RA_startE ha hb (by assumption) (by assumption) (by assumption) | exact RA_oneE hRA (by omega) (by assumption) (by assumption) (by assumption) (by assumption) (by assumption) (by assumption) (by assumption) (by assumption) (by assumption) joinQ (FW_of hGW hFe) hCe.symm (by assumption) (by omega) | exact RA_manyE hRA (by omega) (by assumption) (by assumption) (by assumption) (by assumption) (by assumption) (by assumption) (by assumption) (by assumption) (by assumption) (by first | assumption | rfl) (by first | assumption | rfl) (by first | assumption | rfl) (by first | assumption | rfl) (by first | assumption | rfl) (by first | assumption | rfl) (by first | assumption | rfl) (by first | assumption | rfl) (by first | assumption | rfl) (by first | assumption | rfl) (by first | assumption | rfl) (by first | assumption | rfl) joinQ (FW_of hGW hFe) hCe.symm (by assumption) (by assumption) (by omega)), (by omega), (by first | exact (rnE (by assumption)).1 | omega)⟩, (by simp only [id]; omega)⟩
    have c342 : ¬ (1 < C) := of_decide_eq_false b76
    refine cE_cond false (congrArg Value.bool b76) (fun h => by cases h) (fun _ => ?_)
    refine cE_skip ?_
    refine then_n ?_
    refine cE_region rfl ?_
    refine s_cons (op_move vo q48_6 ?_)
    refine s_cons (op_loadN (cs := [(.int .i64 F), (.int .i64 C), (.int .i64 r68), (.int .i64 r68), (.int .i64 r68), (.int .i64 r68), (.int .i64 r68)]) Try.isAgg71 Try.sizeOf71 rfl (Pt.of (hst.cell 1 rfl) rfl) rfl ?_)
    refine s_cons (op_buildSlice (E := aggE) [(⟨F, C, r68, r68, r68, r68, r68⟩ : Agg)] hst Try.underlying23 Try.sizeOf71 Try.zeroValue71 (evp_cons (v := (.agg #[(.int .i64 F), (.int .i64 C), (.int .i64 r68), (.int .i64 r68), (.int .i64 r68), (.int .i64 r68), (.int .i64 r68)])) rfl evp_nil) (parts_cons rfl parts_nil) rfl (by decide) (fun v343 w344 hst => ?_))
    replace hst : St w0 w344 (rowT 71 aggE v343 ([(⟨F, C, r68, r68, r68, r68, r68⟩ : Agg)]) :: .blk g_c 66 #[(.string (str b)), (.int .i64 r62), (.bool r63)] :: .blk g58 71 #[(.int .i64 F), (.int .i64 C), (.int .i64 r68), (.int .i64 r68), (.int .i64 r68), (.int .i64 r68), (.int .i64 r68)] :: rowT 71 aggE vo out :: L) := hst
    refine s_cons (op_append (E := aggE) (xs := out) (ys := [(⟨F, C, r68, r68, r68, r68, r68⟩ : Agg)]) (z := (.agg #[(.int .i64 0), (.int .i64 0), (.int .i64 0), (.int .i64 0), (.int .i64 0), (.int .i64 0), (.int .i64 0)])) (bytes := 56) hst 3 rfl Try.underlying23 (by kernel_rfl) rfl rfl rfl (hst.sl 0 rfl) (by first | omega | (simp; omega) | (simp; done)) (by first | omega | (simp; omega) | (simp; done)) (fun v345 w346 hst => ?_))
    replace hst : St w0 w346 (rowT 71 aggE v343 ([(⟨F, C, r68, r68, r68, r68, r68⟩ : Agg)]) :: .blk g_c 66 #[(.string (str b)), (.int .i64 r62), (.bool r63)] :: .blk g58 71 #[(.int .i64 F), (.int .i64 C), (.int .i64 r68), (.int .i64 r68), (.int .i64 r68), (.int .i64 r68), (.int .i64 r68)] :: rowT 71 aggE v345 (out ++ ([(⟨F, C, r68, r68, r68, r68, r68⟩ : Agg)])) :: L) := hst
    refine s_cons (op_assign v345 rfl ?_)
    refine s_nil ?_
    refine block_n (then_n ?_)
    refine cE_region rfl ?_
    refine s_cons (op_move (.int .i64 (i : Int)) q48_8 ?_)
    refine s_cons (op_add (k := .i64) (a := (i : Int)) (b := 1) ((i : Int) + 1) rfl rfl (xi64 (by omega) (by omega)) ?_)
    refine s_cons (op_assign (.int .i64 ((i : Int) + 1)) rfl ?_)
    refine s_nil ?_
    refine then_n ?_
    replace hst : St w0 w346 (.blk g_c 66 #[(.string (str b)), (.int .i64 r62), (.bool r63)] :: rowT 71 aggE v343 ([(⟨F, C, r68, r68, r68, r68, r68⟩ : Agg)]) :: .blk g58 71 #[(.int .i64 F), (.int .i64 C), (.int .i64 r68), (.int .i64 r68), (.int .i64 r68), (.int .i64 r68), (.int .i64 r68)] :: rowT 71 aggE v345 (out ++ ([(⟨F, C, r68, r68, r68, r68, r68⟩ : Agg)])) :: L) := hst.front 1 rfl
    replace hst : St w0 w346 (rowT 71 aggE v345 (out ++ ([(⟨F, C, r68, r68, r68, r68, r68⟩ : Agg)])) :: .blk g_c 66 #[(.string (str b)), (.int .i64 r62), (.bool r63)] :: rowT 71 aggE v343 ([(⟨F, C, r68, r68, r68, r68, r68⟩ : Agg)]) :: .blk g58 71 #[(.int .i64 F), (.int .i64 C), (.int .i64 r68), (.int .i64 r68), (.int .i64 r68), (.int .i64 r68), (.int .i64 r68)] :: L) := hst.front 3 rfl
    exact ⟨_, ⟨v345, (out ++ ([(⟨F, C, r68, r68, r68, r68, r68⟩ : Agg)])), (i + 1), r62, r63, rfl, q48_0, q48_1, q48_4, q48_5, q48_7, rfl, (congrArg (Value.int .i64) (show ((i : Int) + 1) = _ from by omega)), (hst.sub (.cons_cons _ (.cons_cons _ (.cons _ (.cons _ (List.Sublist.refl _)))))), (by first | exact RA_startE ha hb (by assumption) (by assumption) (by assumption) | exact RA_oneE hRA (by omega) (by assumption) (by assumption) (by assumption) (by assumption) (by assumption) (by assumption) (by assumption) (by assumption) (by assumption) joinQ (FW_of hGW hFe) hCe.symm (by assumption) (by omega) | exact RA_manyE hRA (by omega) (by assumption) (by assumption) (by assumption) (by assumption) (by assumption) (by assumption) (by assumption) (by assumption) (by assumption) (by first | assumption | rfl) (by first | assumption | rfl) (by first | assumption | rfl) (by first | assumption | rfl) (by first | assumption | rfl) (by first | assumption | rfl) (by first | assumption | rfl) (by first | assumption | rfl) (by first | assumption | rfl) (by first | assumption | rfl) (by first | assumption | rfl) (by first | assumption | rfl) joinQ (FW_of hGW hFe) hCe.symm (by assumption) (by assumption) (by omega)), (by omega), (by first | exact (rnE (by assumption)).1 | omega)⟩, (by simp only [id]; omega)⟩
  have c347 : ¬ ((i : Int) < (wr (r1))) := of_decide_eq_false b25
  refine s_no 25 rfl (congrArg Value.bool b25) ?_
  refine s_no 25 rfl (congrArg Value.bool b25) ?_
  refine s_no 25 rfl (congrArg Value.bool b25) ?_
  refine s_no 25 rfl (congrArg Value.bool b25) ?_
  refine s_no 25 rfl (congrArg Value.bool b25) ?_
  refine s_cons (op_pick_f (.bool false) (congrArg Value.bool b25) rfl ?_)
  refine s_nil ?_
  refine then_n ?_
  refine cE_cond false rfl (fun h => by cases h) (fun _ => ?_)
  refine cE_exit ?_
  refine then_x (then_x (block_hit (then_n ?_)))
  refine cE_seq ?_
  refine cE_region rfl ?_
  refine s_cons (op_move vo q21_6 ?_)
  refine s_cons (op_assign vo rfl ?_)
  refine s_nil ?_
  refine then_n ?_
  refine cE_ret ?_
  refine post_r _ (res1 (v := vo) rfl) ?_
  have hd := RD_end hRA (by first | exact Or.inl (by assumption) | exact Or.inr (by omega))
  exact ⟨vo, out, p, bx, rfl, hst.sub (.cons_cons _ (.cons_cons _ (List.Sublist.refl _))), hd⟩
end

end Go.Proofs.Ytpamjfbdgaamoaa
