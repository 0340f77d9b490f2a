/- twinkeepref17.MayTold, twinkeepref17.Content -/
import Derived.Test.YtldfnkhccaglmaaXLA
import Derived.Test.YtldfnkhccaglmaaXTM
import Derived.Test.YtldfnkhccaglmaaXT
import Derived.Test.YtldfnkhccaglmaaXW6
namespace Go.Proofs.Ytldfnkhccaglmaa
open Go.RowKit

set_option maxRecDepth 8000 in
set_option maxHeartbeats 8000000 in
theorem c_rTold (w0 : World) (v_l : Value) (l : List Told) (h_l : Sl w0 toldE v_l l) :
  Calls Try.prog 10 #[v_l] w0 fun e w' => e = .returned (.bool (toldJ l)) ∧ St w0 w' [] := by
 refine calls_E (n := 83) (ts := [2]) Try.func10 rfl rfl rfl (by simp) ?_
 have hst := St.start w0
 refine cE_seq (cE_region rfl (s_cons (op_assign (.bool false) rfl (s_nil (then_n (cE_seq (cE_seq (cE_region rfl (s_cons (op_assign (iV 0) rfl (s_nil (then_n (cE_block (cE_loop (fun (m : Nat) (ρ : Env) (w : World) => ∃ (i : Nat), m = l.length - i ∧ ρ 0 = v_l ∧ ρ 3 = (iV (i : Int)) ∧ St w0 w [] ∧ (i ≤ l.length) ∧ (toldTo l i = true)) id _ ⟨0, rfl, rfl, (congrArg iV (show 0 = _ from by omega)), hst, (by omega), (by first | rfl | exact told_stepR hI (by omega) (by omega) hK)⟩ ?_))))))))))))))
 rintro m2 ρ3 w4 ⟨i, hm2, q1_0, q1_3, hst, hi, hI⟩
 have hlen := h_l.len
 refine cE_seq (cE_seq (cE_region rfl (s_cons (op_move (iV (i : Int)) q1_3 (s_cons (op_move v_l q1_0 (s_cons (op_len (E := toldE) (xs := l) Try.underlying22 rfl h_l (s_cons (op_lss (k := .i64) (a := (i : Int)) (b := (l.length : Int)) rfl rfl (s_nil (then_n ?_))))))))))))
 rcases Bool.eq_false_or_eq_true (decide ((i : Int) < (l.length : Int))) with b5 | b5
 ·have c6 : (i : Int) < (l.length : Int) := of_decide_eq_true b5
  refine cE_cond true (congrArg Value.bool b5) (fun _ => ?_) (fun h => by cases h)
  refine cE_skip (then_n (cE_seq (cE_block (cE_seq (cE_seq (cE_region rfl (s_cons (op_move v_l q1_0 (s_cons (op_move (iV (i : Int)) q1_3 (s_cons (op_indexAddrD (E := toldE) (xs := l) i Try.underlying22 Try.sizeOf54 rfl h_l rfl (by omega) (by omega) (fun a7 o8 p9 => ?_)))))))))))))
  refine s_cons (op_fieldAddr (s := 0) Try.underlying54 rfl rfl Try.sizeOf3 rfl (s_cons (op_load1 (u := (iV ((gd l i).Site))) Try.isAgg3 rfl ((p9.below hst.below).drop 2) (s_cons (op_lss (k := .i64) (a := (gd l i).Site) (b := 0) rfl rfl (s_cons (op_move (.bool (decide (((gd l i).Site) < 0))) rfl ?_)))))))
  obtain ⟨g10, hg11⟩ : ∃ x : Bool, x = !(decide (((gd l i).Site) < 0)) := ⟨_, rfl⟩
  refine s_lz 17 rfl ((gA_f rfl).trans hg11.symm) (Rlz g10 v_l w4) ?_ (fun hc12 => rlz_f hc12) ?_
  ·intro hc12
   refine op_move v_l q1_0 ?_
   exact rlz_t hc12
  rintro _ _ ⟨rfl, rfl⟩
  refine s_lz 17 rfl ((gA_f rfl).trans hg11.symm) (Rlz g10 (iV (i : Int)) w4) ?_ (fun hc13 => rlz_f hc13) ?_
  ·intro hc13
   refine op_move (iV (i : Int)) q1_3 ?_
   exact rlz_t hc13
  rintro _ _ ⟨rfl, rfl⟩
  refine s_lz 17 rfl ((gA_f rfl).trans hg11.symm) (RlzP g10 w0 w4 [(iV (((gd l i).S).T)), (iV (((gd l i).S).V)), (iV ((gd l i).Site)), (iV ((gd l i).View)), (.bool ((gd l i).Safe))]) ?_ (fun hc14 => ⟨fun h => absurd (show _ = true from h) (by rw [hc14]; decide), rfl⟩) ?_
  ·intro hc14
   have c15 : ¬ (((gd l i).Site) < 0) := of_decide_eq_false (not_t (hg11.symm.trans hc14))
   refine op_indexAddrD (E := toldE) (xs := l) i Try.underlying22 Try.sizeOf54 (gt hc14) h_l (gt hc14) (by omega) (by omega) (fun a16 o17 p18 => ?_)
   exact ⟨fun _ => ⟨_, _, rfl, p18⟩, rfl⟩
  rintro v19 _ ⟨hp20, rfl⟩
  refine s_lz 17 rfl ((gA_f rfl).trans hg11.symm) (RlzP g10 w0 w4 [(iV ((gd l i).Site)), (iV ((gd l i).View)), (.bool ((gd l i).Safe))]) ?_ (fun hc21 => ⟨fun h => absurd (show _ = true from h) (by rw [hc21]; decide), rfl⟩) ?_
  ·intro hc21
   obtain ⟨a22, o23, e24, p25⟩ := hp20 hc21
   refine op_fieldAddr (s := 0) Try.underlying54 rfl rfl Try.sizeOf3 e24 ?_
   exact ⟨fun _ => ⟨_, _, rfl, (p25.drop 2)⟩, rfl⟩
  rintro v26 _ ⟨hp27, rfl⟩
  refine s_lz 17 rfl ((gA_f rfl).trans hg11.symm) (Rlz g10 (iV ((gd l i).Site)) w4) ?_ (fun hc28 => rlz_f hc28) ?_
  ·intro hc28
   obtain ⟨a29, o30, e31, p32⟩ := hp20 hc28
   obtain ⟨a33, o34, e35, p36⟩ := hp27 hc28
   refine op_load1 (u := (iV ((gd l i).Site))) Try.isAgg3 e35 (p36.below hst.below) ?_
   exact rlz_t hc28
  rintro _ _ ⟨rfl, rfl⟩
  refine s_lz 17 rfl ((gA_f rfl).trans hg11.symm) (Rlz g10 (.bool (decide (1 < ((gd l i).Site)))) w4) ?_ (fun hc37 => rlz_f hc37) ?_
  ·intro hc37
   obtain ⟨a38, o39, e40, p41⟩ := hp20 hc37
   obtain ⟨a42, o43, e44, p45⟩ := hp27 hc37
   refine op_gtr (k := .i64) (a := (gd l i).Site) (b := 1) (gt hc37) rfl ?_
   exact rlz_t hc37
  rintro _ _ ⟨rfl, rfl⟩
  obtain ⟨g46, hg47⟩ : ∃ x : Bool, x = ((decide (((gd l i).Site) < 0)) || (decide (1 < ((gd l i).Site)))) := ⟨_, rfl⟩
  refine s_cons (op_pick_or rfl rfl rfl (fun hp => (hg11.trans (congrArg (! ·) hp))) (s_cons (op_move (.bool g46) (congrArg Value.bool hg47.symm) (s_lz 25 rfl (gA_f rfl) (Rlz (!g46) v_l w4) ?_ (fun hc48 => rlz_f hc48) ?_))))
  ·intro hc48
   obtain ⟨a49, o50, e51, p52⟩ := hp20 (hg11.trans (congrArg (! ·) (or_l (hg47.symm.trans (not_t hc48)))))
   obtain ⟨a53, o54, e55, p56⟩ := hp27 (hg11.trans (congrArg (! ·) (or_l (hg47.symm.trans (not_t hc48)))))
   refine op_move v_l q1_0 ?_
   exact rlz_t hc48
  rintro _ _ ⟨rfl, rfl⟩
  refine s_lz 25 rfl (gA_f rfl) (Rlz (!g46) (iV (i : Int)) w4) ?_ (fun hc57 => rlz_f hc57) ?_
  ·intro hc57
   obtain ⟨a58, o59, e60, p61⟩ := hp20 (hg11.trans (congrArg (! ·) (or_l (hg47.symm.trans (not_t hc57)))))
   obtain ⟨a62, o63, e64, p65⟩ := hp27 (hg11.trans (congrArg (! ·) (or_l (hg47.symm.trans (not_t hc57)))))
   refine op_move (iV (i : Int)) q1_3 ?_
   exact rlz_t hc57
  rintro _ _ ⟨rfl, rfl⟩
  refine s_lz 25 rfl (gA_f rfl) (RlzP (!g46) w0 w4 [(iV (((gd l i).S).T)), (iV (((gd l i).S).V)), (iV ((gd l i).Site)), (iV ((gd l i).View)), (.bool ((gd l i).Safe))]) ?_ (fun hc66 => ⟨fun h => absurd (show _ = true from h) (by rw [hc66]; decide), rfl⟩) ?_
  ·intro hc66
   have c67 : ¬ (((gd l i).Site) < 0) := of_decide_eq_false (or_l (hg47.symm.trans (not_t hc66)))
   have c68 : ¬ (1 < ((gd l i).Site)) := of_decide_eq_false (or_r (hg47.symm.trans (not_t hc66)))
   obtain ⟨a69, o70, e71, p72⟩ := hp20 (hg11.trans (congrArg (! ·) (or_l (hg47.symm.trans (not_t hc66)))))
   obtain ⟨a73, o74, e75, p76⟩ := hp27 (hg11.trans (congrArg (! ·) (or_l (hg47.symm.trans (not_t hc66)))))
   refine op_indexAddrD (E := toldE) (xs := l) i Try.underlying22 Try.sizeOf54 (gt (congrArg (! ·) (not_t hc66))) h_l (gt (congrArg (! ·) (not_t hc66))) (by omega) (by omega) (fun a77 o78 p79 => ?_)
   exact ⟨fun _ => ⟨_, _, rfl, p79⟩, rfl⟩
  rintro v80 _ ⟨hp81, rfl⟩
  refine s_lz 25 rfl (gA_f rfl) (RlzP (!g46) w0 w4 [(iV ((gd l i).View)), (.bool ((gd l i).Safe))]) ?_ (fun hc82 => ⟨fun h => absurd (show _ = true from h) (by rw [hc82]; decide), rfl⟩) ?_
  ·intro hc82
   obtain ⟨a83, o84, e85, p86⟩ := hp20 (hg11.trans (congrArg (! ·) (or_l (hg47.symm.trans (not_t hc82)))))
   obtain ⟨a87, o88, e89, p90⟩ := hp27 (hg11.trans (congrArg (! ·) (or_l (hg47.symm.trans (not_t hc82)))))
   obtain ⟨a91, o92, e93, p94⟩ := hp81 (congrArg (! ·) (not_t hc82))
   refine op_fieldAddr (s := 0) Try.underlying54 rfl rfl Try.sizeOf3 e93 ?_
   exact ⟨fun _ => ⟨_, _, rfl, (p94.drop 3)⟩, rfl⟩
  rintro v95 _ ⟨hp96, rfl⟩
  refine s_lz 25 rfl (gA_f rfl) (Rlz (!g46) (iV ((gd l i).View)) w4) ?_ (fun hc97 => rlz_f hc97) ?_
  ·intro hc97
   obtain ⟨a98, o99, e100, p101⟩ := hp20 (hg11.trans (congrArg (! ·) (or_l (hg47.symm.trans (not_t hc97)))))
   obtain ⟨a102, o103, e104, p105⟩ := hp27 (hg11.trans (congrArg (! ·) (or_l (hg47.symm.trans (not_t hc97)))))
   obtain ⟨a106, o107, e108, p109⟩ := hp81 (congrArg (! ·) (not_t hc97))
   obtain ⟨a110, o111, e112, p113⟩ := hp96 (congrArg (! ·) (not_t hc97))
   refine op_load1 (u := (iV ((gd l i).View))) Try.isAgg3 e112 (p113.below hst.below) ?_
   exact rlz_t hc97
  rintro _ _ ⟨rfl, rfl⟩
  refine s_lz 25 rfl (gA_f rfl) (Rlz (!g46) (.bool (decide (((gd l i).View) < 1))) w4) ?_ (fun hc114 => rlz_f hc114) ?_
  ·intro hc114
   obtain ⟨a115, o116, e117, p118⟩ := hp20 (hg11.trans (congrArg (! ·) (or_l (hg47.symm.trans (not_t hc114)))))
   obtain ⟨a119, o120, e121, p122⟩ := hp27 (hg11.trans (congrArg (! ·) (or_l (hg47.symm.trans (not_t hc114)))))
   obtain ⟨a123, o124, e125, p126⟩ := hp81 (congrArg (! ·) (not_t hc114))
   obtain ⟨a127, o128, e129, p130⟩ := hp96 (congrArg (! ·) (not_t hc114))
   refine op_lss (k := .i64) (a := (gd l i).View) (b := 1) (gt (congrArg (! ·) (not_t hc114))) rfl ?_
   exact rlz_t hc114
  rintro _ _ ⟨rfl, rfl⟩
  obtain ⟨g131, hg132⟩ : ∃ x : Bool, x = (g46 || (decide (((gd l i).View) < 1))) := ⟨_, rfl⟩
  refine s_cons (op_pick_or rfl rfl rfl (fun hp => (congrArg (! ·) hp)) (s_cons (op_move (.bool g131) (congrArg Value.bool hg132.symm) (s_lz 33 rfl (gA_f rfl) (Rlz (!g131) v_l w4) ?_ (fun hc133 => rlz_f hc133) ?_))))
  ·intro hc133
   obtain ⟨a134, o135, e136, p137⟩ := hp20 (hg11.trans (congrArg (! ·) (or_l (hg47.symm.trans (or_l (hg132.symm.trans (not_t hc133)))))))
   obtain ⟨a138, o139, e140, p141⟩ := hp27 (hg11.trans (congrArg (! ·) (or_l (hg47.symm.trans (or_l (hg132.symm.trans (not_t hc133)))))))
   obtain ⟨a142, o143, e144, p145⟩ := hp81 (congrArg (! ·) (or_l (hg132.symm.trans (not_t hc133))))
   obtain ⟨a146, o147, e148, p149⟩ := hp96 (congrArg (! ·) (or_l (hg132.symm.trans (not_t hc133))))
   refine op_move v_l q1_0 ?_
   exact rlz_t hc133
  rintro _ _ ⟨rfl, rfl⟩
  refine s_lz 33 rfl (gA_f rfl) (Rlz (!g131) (iV (i : Int)) w4) ?_ (fun hc150 => rlz_f hc150) ?_
  ·intro hc150
   obtain ⟨a151, o152, e153, p154⟩ := hp20 (hg11.trans (congrArg (! ·) (or_l (hg47.symm.trans (or_l (hg132.symm.trans (not_t hc150)))))))
   obtain ⟨a155, o156, e157, p158⟩ := hp27 (hg11.trans (congrArg (! ·) (or_l (hg47.symm.trans (or_l (hg132.symm.trans (not_t hc150)))))))
   obtain ⟨a159, o160, e161, p162⟩ := hp81 (congrArg (! ·) (or_l (hg132.symm.trans (not_t hc150))))
   obtain ⟨a163, o164, e165, p166⟩ := hp96 (congrArg (! ·) (or_l (hg132.symm.trans (not_t hc150))))
   refine op_move (iV (i : Int)) q1_3 ?_
   exact rlz_t hc150
  rintro _ _ ⟨rfl, rfl⟩
  refine s_lz 33 rfl (gA_f rfl) (RlzP (!g131) w0 w4 [(iV (((gd l i).S).T)), (iV (((gd l i).S).V)), (iV ((gd l i).Site)), (iV ((gd l i).View)), (.bool ((gd l i).Safe))]) ?_ (fun hc167 => ⟨fun h => absurd (show _ = true from h) (by rw [hc167]; decide), rfl⟩) ?_
  ·intro hc167
   have c168 : ¬ (((gd l i).Site) < 0) := of_decide_eq_false (or_l (hg47.symm.trans (or_l (hg132.symm.trans (not_t hc167)))))
   have c169 : ¬ (1 < ((gd l i).Site)) := of_decide_eq_false (or_r (hg47.symm.trans (or_l (hg132.symm.trans (not_t hc167)))))
   have c170 : ¬ (((gd l i).View) < 1) := of_decide_eq_false (or_r (hg132.symm.trans (not_t hc167)))
   obtain ⟨a171, o172, e173, p174⟩ := hp20 (hg11.trans (congrArg (! ·) (or_l (hg47.symm.trans (or_l (hg132.symm.trans (not_t hc167)))))))
   obtain ⟨a175, o176, e177, p178⟩ := hp27 (hg11.trans (congrArg (! ·) (or_l (hg47.symm.trans (or_l (hg132.symm.trans (not_t hc167)))))))
   obtain ⟨a179, o180, e181, p182⟩ := hp81 (congrArg (! ·) (or_l (hg132.symm.trans (not_t hc167))))
   obtain ⟨a183, o184, e185, p186⟩ := hp96 (congrArg (! ·) (or_l (hg132.symm.trans (not_t hc167))))
   refine op_indexAddrD (E := toldE) (xs := l) i Try.underlying22 Try.sizeOf54 (gt (congrArg (! ·) (not_t hc167))) h_l (gt (congrArg (! ·) (not_t hc167))) (by omega) (by omega) (fun a187 o188 p189 => ?_)
   exact ⟨fun _ => ⟨_, _, rfl, p189⟩, rfl⟩
  rintro v190 _ ⟨hp191, rfl⟩
  refine s_lz 33 rfl (gA_f rfl) (RlzP (!g131) w0 w4 [(iV (((gd l i).S).T)), (iV (((gd l i).S).V)), (iV ((gd l i).Site)), (iV ((gd l i).View)), (.bool ((gd l i).Safe))]) ?_ (fun hc192 => ⟨fun h => absurd (show _ = true from h) (by rw [hc192]; decide), rfl⟩) ?_
  ·intro hc192
   obtain ⟨a193, o194, e195, p196⟩ := hp20 (hg11.trans (congrArg (! ·) (or_l (hg47.symm.trans (or_l (hg132.symm.trans (not_t hc192)))))))
   obtain ⟨a197, o198, e199, p200⟩ := hp27 (hg11.trans (congrArg (! ·) (or_l (hg47.symm.trans (or_l (hg132.symm.trans (not_t hc192)))))))
   obtain ⟨a201, o202, e203, p204⟩ := hp81 (congrArg (! ·) (or_l (hg132.symm.trans (not_t hc192))))
   obtain ⟨a205, o206, e207, p208⟩ := hp96 (congrArg (! ·) (or_l (hg132.symm.trans (not_t hc192))))
   obtain ⟨a209, o210, e211, p212⟩ := hp191 (congrArg (! ·) (not_t hc192))
   refine op_fieldAddr (s := 1) Try.underlying54 rfl rfl Try.sizeOf51 e211 ?_
   exact ⟨fun _ => ⟨_, _, rfl, p212⟩, rfl⟩
  rintro v213 _ ⟨hp214, rfl⟩
  refine s_lz 33 rfl (gA_f rfl) (RlzP (!g131) w0 w4 [(iV (((gd l i).S).T)), (iV (((gd l i).S).V)), (iV ((gd l i).Site)), (iV ((gd l i).View)), (.bool ((gd l i).Safe))]) ?_ (fun hc215 => ⟨fun h => absurd (show _ = true from h) (by rw [hc215]; decide), rfl⟩) ?_
  ·intro hc215
   obtain ⟨a216, o217, e218, p219⟩ := hp20 (hg11.trans (congrArg (! ·) (or_l (hg47.symm.trans (or_l (hg132.symm.trans (not_t hc215)))))))
   obtain ⟨a220, o221, e222, p223⟩ := hp27 (hg11.trans (congrArg (! ·) (or_l (hg47.symm.trans (or_l (hg132.symm.trans (not_t hc215)))))))
   obtain ⟨a224, o225, e226, p227⟩ := hp81 (congrArg (! ·) (or_l (hg132.symm.trans (not_t hc215))))
   obtain ⟨a228, o229, e230, p231⟩ := hp96 (congrArg (! ·) (or_l (hg132.symm.trans (not_t hc215))))
   obtain ⟨a232, o233, e234, p235⟩ := hp191 (congrArg (! ·) (not_t hc215))
   obtain ⟨a236, o237, e238, p239⟩ := hp214 (congrArg (! ·) (not_t hc215))
   refine op_fieldAddr (s := 0) Try.underlying51 rfl rfl Try.sizeOf2 e238 ?_
   exact ⟨fun _ => ⟨_, _, rfl, p239⟩, rfl⟩
  rintro v240 _ ⟨hp241, rfl⟩
  refine s_lz 33 rfl (gA_f rfl) (Rlz (!g131) (iV (((gd l i).S).T)) w4) ?_ (fun hc242 => rlz_f hc242) ?_
  ·intro hc242
   obtain ⟨a243, o244, e245, p246⟩ := hp20 (hg11.trans (congrArg (! ·) (or_l (hg47.symm.trans (or_l (hg132.symm.trans (not_t hc242)))))))
   obtain ⟨a247, o248, e249, p250⟩ := hp27 (hg11.trans (congrArg (! ·) (or_l (hg47.symm.trans (or_l (hg132.symm.trans (not_t hc242)))))))
   obtain ⟨a251, o252, e253, p254⟩ := hp81 (congrArg (! ·) (or_l (hg132.symm.trans (not_t hc242))))
   obtain ⟨a255, o256, e257, p258⟩ := hp96 (congrArg (! ·) (or_l (hg132.symm.trans (not_t hc242))))
   obtain ⟨a259, o260, e261, p262⟩ := hp191 (congrArg (! ·) (not_t hc242))
   obtain ⟨a263, o264, e265, p266⟩ := hp214 (congrArg (! ·) (not_t hc242))
   obtain ⟨a267, o268, e269, p270⟩ := hp241 (congrArg (! ·) (not_t hc242))
   refine op_load1 (u := (iV (((gd l i).S).T))) Try.isAgg2 e269 (p270.below hst.below) ?_
   exact rlz_t hc242
  rintro _ _ ⟨rfl, rfl⟩
  refine s_lz 33 rfl (gA_f rfl) (Rlz (!g131) (.bool (decide ((((gd l i).S).T) < 0))) w4) ?_ (fun hc271 => rlz_f hc271) ?_
  ·intro hc271
   obtain ⟨a272, o273, e274, p275⟩ := hp20 (hg11.trans (congrArg (! ·) (or_l (hg47.symm.trans (or_l (hg132.symm.trans (not_t hc271)))))))
   obtain ⟨a276, o277, e278, p279⟩ := hp27 (hg11.trans (congrArg (! ·) (or_l (hg47.symm.trans (or_l (hg132.symm.trans (not_t hc271)))))))
   obtain ⟨a280, o281, e282, p283⟩ := hp81 (congrArg (! ·) (or_l (hg132.symm.trans (not_t hc271))))
   obtain ⟨a284, o285, e286, p287⟩ := hp96 (congrArg (! ·) (or_l (hg132.symm.trans (not_t hc271))))
   obtain ⟨a288, o289, e290, p291⟩ := hp191 (congrArg (! ·) (not_t hc271))
   obtain ⟨a292, o293, e294, p295⟩ := hp214 (congrArg (! ·) (not_t hc271))
   obtain ⟨a296, o297, e298, p299⟩ := hp241 (congrArg (! ·) (not_t hc271))
   refine op_lss (k := .i64) (a := ((gd l i).S).T) (b := 0) (gt (congrArg (! ·) (not_t hc271))) rfl ?_
   exact rlz_t hc271
  rintro _ _ ⟨rfl, rfl⟩
  obtain ⟨g300, hg301⟩ : ∃ x : Bool, x = (g131 || (decide ((((gd l i).S).T) < 0))) := ⟨_, rfl⟩
  refine s_cons (op_pick_or rfl rfl rfl (fun hp => (congrArg (! ·) hp)) (s_cons (op_move (.bool g300) (congrArg Value.bool hg301.symm) (s_lz 42 rfl (gA_f rfl) (Rlz (!g300) v_l w4) ?_ (fun hc302 => rlz_f hc302) ?_))))
  ·intro hc302
   obtain ⟨a303, o304, e305, p306⟩ := hp20 (hg11.trans (congrArg (! ·) (or_l (hg47.symm.trans (or_l (hg132.symm.trans (or_l (hg301.symm.trans (not_t hc302)))))))))
   obtain ⟨a307, o308, e309, p310⟩ := hp27 (hg11.trans (congrArg (! ·) (or_l (hg47.symm.trans (or_l (hg132.symm.trans (or_l (hg301.symm.trans (not_t hc302)))))))))
   obtain ⟨a311, o312, e313, p314⟩ := hp81 (congrArg (! ·) (or_l (hg132.symm.trans (or_l (hg301.symm.trans (not_t hc302))))))
   obtain ⟨a315, o316, e317, p318⟩ := hp96 (congrArg (! ·) (or_l (hg132.symm.trans (or_l (hg301.symm.trans (not_t hc302))))))
   obtain ⟨a319, o320, e321, p322⟩ := hp191 (congrArg (! ·) (or_l (hg301.symm.trans (not_t hc302))))
   obtain ⟨a323, o324, e325, p326⟩ := hp214 (congrArg (! ·) (or_l (hg301.symm.trans (not_t hc302))))
   obtain ⟨a327, o328, e329, p330⟩ := hp241 (congrArg (! ·) (or_l (hg301.symm.trans (not_t hc302))))
   refine op_move v_l q1_0 ?_
   exact rlz_t hc302
  rintro _ _ ⟨rfl, rfl⟩
  refine s_lz 42 rfl (gA_f rfl) (Rlz (!g300) (iV (i : Int)) w4) ?_ (fun hc331 => rlz_f hc331) ?_
  ·intro hc331
   obtain ⟨a332, o333, e334, p335⟩ := hp20 (hg11.trans (congrArg (! ·) (or_l (hg47.symm.trans (or_l (hg132.symm.trans (or_l (hg301.symm.trans (not_t hc331)))))))))
   obtain ⟨a336, o337, e338, p339⟩ := hp27 (hg11.trans (congrArg (! ·) (or_l (hg47.symm.trans (or_l (hg132.symm.trans (or_l (hg301.symm.trans (not_t hc331)))))))))
   obtain ⟨a340, o341, e342, p343⟩ := hp81 (congrArg (! ·) (or_l (hg132.symm.trans (or_l (hg301.symm.trans (not_t hc331))))))
   obtain ⟨a344, o345, e346, p347⟩ := hp96 (congrArg (! ·) (or_l (hg132.symm.trans (or_l (hg301.symm.trans (not_t hc331))))))
   obtain ⟨a348, o349, e350, p351⟩ := hp191 (congrArg (! ·) (or_l (hg301.symm.trans (not_t hc331))))
   obtain ⟨a352, o353, e354, p355⟩ := hp214 (congrArg (! ·) (or_l (hg301.symm.trans (not_t hc331))))
   obtain ⟨a356, o357, e358, p359⟩ := hp241 (congrArg (! ·) (or_l (hg301.symm.trans (not_t hc331))))
   refine op_move (iV (i : Int)) q1_3 ?_
   exact rlz_t hc331
  rintro _ _ ⟨rfl, rfl⟩
  refine s_lz 42 rfl (gA_f rfl) (RlzP (!g300) w0 w4 [(iV (((gd l i).S).T)), (iV (((gd l i).S).V)), (iV ((gd l i).Site)), (iV ((gd l i).View)), (.bool ((gd l i).Safe))]) ?_ (fun hc360 => ⟨fun h => absurd (show _ = true from h) (by rw [hc360]; decide), rfl⟩) ?_
  ·intro hc360
   have c361 : ¬ (((gd l i).Site) < 0) := of_decide_eq_false (or_l (hg47.symm.trans (or_l (hg132.symm.trans (or_l (hg301.symm.trans (not_t hc360)))))))
   have c362 : ¬ (1 < ((gd l i).Site)) := of_decide_eq_false (or_r (hg47.symm.trans (or_l (hg132.symm.trans (or_l (hg301.symm.trans (not_t hc360)))))))
   have c363 : ¬ (((gd l i).View) < 1) := of_decide_eq_false (or_r (hg132.symm.trans (or_l (hg301.symm.trans (not_t hc360)))))
   have c364 : ¬ ((((gd l i).S).T) < 0) := of_decide_eq_false (or_r (hg301.symm.trans (not_t hc360)))
   obtain ⟨a365, o366, e367, p368⟩ := hp20 (hg11.trans (congrArg (! ·) (or_l (hg47.symm.trans (or_l (hg132.symm.trans (or_l (hg301.symm.trans (not_t hc360)))))))))
   obtain ⟨a369, o370, e371, p372⟩ := hp27 (hg11.trans (congrArg (! ·) (or_l (hg47.symm.trans (or_l (hg132.symm.trans (or_l (hg301.symm.trans (not_t hc360)))))))))
   obtain ⟨a373, o374, e375, p376⟩ := hp81 (congrArg (! ·) (or_l (hg132.symm.trans (or_l (hg301.symm.trans (not_t hc360))))))
   obtain ⟨a377, o378, e379, p380⟩ := hp96 (congrArg (! ·) (or_l (hg132.symm.trans (or_l (hg301.symm.trans (not_t hc360))))))
   obtain ⟨a381, o382, e383, p384⟩ := hp191 (congrArg (! ·) (or_l (hg301.symm.trans (not_t hc360))))
   obtain ⟨a385, o386, e387, p388⟩ := hp214 (congrArg (! ·) (or_l (hg301.symm.trans (not_t hc360))))
   obtain ⟨a389, o390, e391, p392⟩ := hp241 (congrArg (! ·) (or_l (hg301.symm.trans (not_t hc360))))
   refine op_indexAddrD (E := toldE) (xs := l) i Try.underlying22 Try.sizeOf54 (gt (congrArg (! ·) (not_t hc360))) h_l (gt (congrArg (! ·) (not_t hc360))) (by omega) (by omega) (fun a393 o394 p395 => ?_)
   exact ⟨fun _ => ⟨_, _, rfl, p395⟩, rfl⟩
  rintro v396 _ ⟨hp397, rfl⟩
  refine s_lz 42 rfl (gA_f rfl) (RlzP (!g300) w0 w4 [(iV (((gd l i).S).T)), (iV (((gd l i).S).V)), (iV ((gd l i).Site)), (iV ((gd l i).View)), (.bool ((gd l i).Safe))]) ?_ (fun hc398 => ⟨fun h => absurd (show _ = true from h) (by rw [hc398]; decide), rfl⟩) ?_
  ·intro hc398
   obtain ⟨a399, o400, e401, p402⟩ := hp20 (hg11.trans (congrArg (! ·) (or_l (hg47.symm.trans (or_l (hg132.symm.trans (or_l (hg301.symm.trans (not_t hc398)))))))))
   obtain ⟨a403, o404, e405, p406⟩ := hp27 (hg11.trans (congrArg (! ·) (or_l (hg47.symm.trans (or_l (hg132.symm.trans (or_l (hg301.symm.trans (not_t hc398)))))))))
   obtain ⟨a407, o408, e409, p410⟩ := hp81 (congrArg (! ·) (or_l (hg132.symm.trans (or_l (hg301.symm.trans (not_t hc398))))))
   obtain ⟨a411, o412, e413, p414⟩ := hp96 (congrArg (! ·) (or_l (hg132.symm.trans (or_l (hg301.symm.trans (not_t hc398))))))
   obtain ⟨a415, o416, e417, p418⟩ := hp191 (congrArg (! ·) (or_l (hg301.symm.trans (not_t hc398))))
   obtain ⟨a419, o420, e421, p422⟩ := hp214 (congrArg (! ·) (or_l (hg301.symm.trans (not_t hc398))))
   obtain ⟨a423, o424, e425, p426⟩ := hp241 (congrArg (! ·) (or_l (hg301.symm.trans (not_t hc398))))
   obtain ⟨a427, o428, e429, p430⟩ := hp397 (congrArg (! ·) (not_t hc398))
   refine op_fieldAddr (s := 1) Try.underlying54 rfl rfl Try.sizeOf51 e429 ?_
   exact ⟨fun _ => ⟨_, _, rfl, p430⟩, rfl⟩
  rintro v431 _ ⟨hp432, rfl⟩
  refine s_lz 42 rfl (gA_f rfl) (RlzP (!g300) w0 w4 [(iV (((gd l i).S).T)), (iV (((gd l i).S).V)), (iV ((gd l i).Site)), (iV ((gd l i).View)), (.bool ((gd l i).Safe))]) ?_ (fun hc433 => ⟨fun h => absurd (show _ = true from h) (by rw [hc433]; decide), rfl⟩) ?_
  ·intro hc433
   obtain ⟨a434, o435, e436, p437⟩ := hp20 (hg11.trans (congrArg (! ·) (or_l (hg47.symm.trans (or_l (hg132.symm.trans (or_l (hg301.symm.trans (not_t hc433)))))))))
   obtain ⟨a438, o439, e440, p441⟩ := hp27 (hg11.trans (congrArg (! ·) (or_l (hg47.symm.trans (or_l (hg132.symm.trans (or_l (hg301.symm.trans (not_t hc433)))))))))
   obtain ⟨a442, o443, e444, p445⟩ := hp81 (congrArg (! ·) (or_l (hg132.symm.trans (or_l (hg301.symm.trans (not_t hc433))))))
   obtain ⟨a446, o447, e448, p449⟩ := hp96 (congrArg (! ·) (or_l (hg132.symm.trans (or_l (hg301.symm.trans (not_t hc433))))))
   obtain ⟨a450, o451, e452, p453⟩ := hp191 (congrArg (! ·) (or_l (hg301.symm.trans (not_t hc433))))
   obtain ⟨a454, o455, e456, p457⟩ := hp214 (congrArg (! ·) (or_l (hg301.symm.trans (not_t hc433))))
   obtain ⟨a458, o459, e460, p461⟩ := hp241 (congrArg (! ·) (or_l (hg301.symm.trans (not_t hc433))))
   obtain ⟨a462, o463, e464, p465⟩ := hp397 (congrArg (! ·) (not_t hc433))
   obtain ⟨a466, o467, e468, p469⟩ := hp432 (congrArg (! ·) (not_t hc433))
   refine op_fieldAddr (s := 0) Try.underlying51 rfl rfl Try.sizeOf2 e468 ?_
   exact ⟨fun _ => ⟨_, _, rfl, p469⟩, rfl⟩
  rintro v470 _ ⟨hp471, rfl⟩
  refine s_lz 42 rfl (gA_f rfl) (Rlz (!g300) (iV (((gd l i).S).T)) w4) ?_ (fun hc472 => rlz_f hc472) ?_
  ·intro hc472
   obtain ⟨a473, o474, e475, p476⟩ := hp20 (hg11.trans (congrArg (! ·) (or_l (hg47.symm.trans (or_l (hg132.symm.trans (or_l (hg301.symm.trans (not_t hc472)))))))))
   obtain ⟨a477, o478, e479, p480⟩ := hp27 (hg11.trans (congrArg (! ·) (or_l (hg47.symm.trans (or_l (hg132.symm.trans (or_l (hg301.symm.trans (not_t hc472)))))))))
   obtain ⟨a481, o482, e483, p484⟩ := hp81 (congrArg (! ·) (or_l (hg132.symm.trans (or_l (hg301.symm.trans (not_t hc472))))))
   obtain ⟨a485, o486, e487, p488⟩ := hp96 (congrArg (! ·) (or_l (hg132.symm.trans (or_l (hg301.symm.trans (not_t hc472))))))
   obtain ⟨a489, o490, e491, p492⟩ := hp191 (congrArg (! ·) (or_l (hg301.symm.trans (not_t hc472))))
   obtain ⟨a493, o494, e495, p496⟩ := hp214 (congrArg (! ·) (or_l (hg301.symm.trans (not_t hc472))))
   obtain ⟨a497, o498, e499, p500⟩ := hp241 (congrArg (! ·) (or_l (hg301.symm.trans (not_t hc472))))
   obtain ⟨a501, o502, e503, p504⟩ := hp397 (congrArg (! ·) (not_t hc472))
   obtain ⟨a505, o506, e507, p508⟩ := hp432 (congrArg (! ·) (not_t hc472))
   obtain ⟨a509, o510, e511, p512⟩ := hp471 (congrArg (! ·) (not_t hc472))
   refine op_load1 (u := (iV (((gd l i).S).T))) Try.isAgg2 e511 (p512.below hst.below) ?_
   exact rlz_t hc472
  rintro _ _ ⟨rfl, rfl⟩
  refine s_lz 42 rfl (gA_f rfl) (Rlz (!g300) (.bool (decide (1099511627776 < (((gd l i).S).T)))) w4) ?_ (fun hc513 => rlz_f hc513) ?_
  ·intro hc513
   obtain ⟨a514, o515, e516, p517⟩ := hp20 (hg11.trans (congrArg (! ·) (or_l (hg47.symm.trans (or_l (hg132.symm.trans (or_l (hg301.symm.trans (not_t hc513)))))))))
   obtain ⟨a518, o519, e520, p521⟩ := hp27 (hg11.trans (congrArg (! ·) (or_l (hg47.symm.trans (or_l (hg132.symm.trans (or_l (hg301.symm.trans (not_t hc513)))))))))
   obtain ⟨a522, o523, e524, p525⟩ := hp81 (congrArg (! ·) (or_l (hg132.symm.trans (or_l (hg301.symm.trans (not_t hc513))))))
   obtain ⟨a526, o527, e528, p529⟩ := hp96 (congrArg (! ·) (or_l (hg132.symm.trans (or_l (hg301.symm.trans (not_t hc513))))))
   obtain ⟨a530, o531, e532, p533⟩ := hp191 (congrArg (! ·) (or_l (hg301.symm.trans (not_t hc513))))
   obtain ⟨a534, o535, e536, p537⟩ := hp214 (congrArg (! ·) (or_l (hg301.symm.trans (not_t hc513))))
   obtain ⟨a538, o539, e540, p541⟩ := hp241 (congrArg (! ·) (or_l (hg301.symm.trans (not_t hc513))))
   obtain ⟨a542, o543, e544, p545⟩ := hp397 (congrArg (! ·) (not_t hc513))
   obtain ⟨a546, o547, e548, p549⟩ := hp432 (congrArg (! ·) (not_t hc513))
   obtain ⟨a550, o551, e552, p553⟩ := hp471 (congrArg (! ·) (not_t hc513))
   refine op_gtr (k := .i64) (a := ((gd l i).S).T) (b := 1099511627776) (gt (congrArg (! ·) (not_t hc513))) rfl ?_
   exact rlz_t hc513
  rintro _ _ ⟨rfl, rfl⟩
  obtain ⟨g554, hg555⟩ : ∃ x : Bool, x = (g300 || (decide (1099511627776 < (((gd l i).S).T)))) := ⟨_, rfl⟩
  refine s_cons (op_pick_or rfl rfl rfl (fun hp => (congrArg (! ·) hp)) (s_nil (then_n ?_)))
  rcases Bool.eq_false_or_eq_true g554 with b556 | b556
  ·have c557 : ((((((gd l i).Site) < 0) ∨ (1 < ((gd l i).Site))) ∨ (((gd l i).View) < 1)) ∨ ((((gd l i).S).T) < 0)) ∨ (1099511627776 < (((gd l i).S).T)) := (pi_or (pi_name hg301 (pi_or (pi_name hg132 (pi_or (pi_name hg47 (pi_or pi_dec pi_dec)) pi_dec)) pi_dec)) pi_dec).1 (hg555.symm.trans b556)
   refine cE_cond true ((congrArg Value.bool hg555.symm).trans (congrArg Value.bool b556)) (fun _ => ?_) (fun h => by cases h)
   refine cE_seq (cE_region rfl (s_cons (op_assign (.bool false) rfl (s_nil (then_n (cE_ret (then_r (block_r (then_r (then_r (block_r (then_r (post_r _ (res1 (v := (.bool false)) rfl) ?_)))))))))))))
   exact ⟨(retv1 (congrArg Value.bool (show false = (toldJ l) from by first | exact (told_bad1 (i := i) (by omega) (by omega)).symm | exact (told_bad2 (i := i) (by omega) (k := k) (by omega) (by assumption) (by assumption) (by assumption)).symm | exact (told_all hI (by omega)).symm))), hst.bare⟩
  have c558 : ¬ (((gd l i).Site) < 0) := of_decide_eq_false (or_l (hg47.symm.trans (or_l (hg132.symm.trans (or_l (hg301.symm.trans (or_l (hg555.symm.trans b556))))))))
  have c559 : ¬ (1 < ((gd l i).Site)) := of_decide_eq_false (or_r (hg47.symm.trans (or_l (hg132.symm.trans (or_l (hg301.symm.trans (or_l (hg555.symm.trans b556))))))))
  have c560 : ¬ (((gd l i).View) < 1) := of_decide_eq_false (or_r (hg132.symm.trans (or_l (hg301.symm.trans (or_l (hg555.symm.trans b556))))))
  have c561 : ¬ ((((gd l i).S).T) < 0) := of_decide_eq_false (or_r (hg301.symm.trans (or_l (hg555.symm.trans b556))))
  have c562 : ¬ (1099511627776 < (((gd l i).S).T)) := of_decide_eq_false (or_r (hg555.symm.trans b556))
  refine cE_cond false ((congrArg Value.bool hg555.symm).trans (congrArg Value.bool b556)) (fun h => by cases h) (fun _ => ?_)
  refine cE_skip (then_n (cE_seq (cE_region rfl (s_cons (op_assign (iV 0) rfl (s_nil (then_n (cE_block (cE_loop (fun (m : Nat) (ρ : Env) (w : World) => ∃ (k : Nat), m = i - k ∧ ρ 0 = v_l ∧ ρ 3 = (iV (i : Int)) ∧ ρ 4 = (iV (k : Int)) ∧ St w0 w [] ∧ (k ≤ i) ∧ (((gd l i).Safe && safeAt (l.take k) (gd l i).S.T) = false)) id _ ⟨0, rfl, q1_0, q1_3, (congrArg iV (show 0 = _ from by omega)), hst, (by omega), (by first | exact told_nilR | exact told_nextR (by omega) hK (by assumption))⟩ ?_)))))))))
  rintro m564 ρ565 w566 ⟨k, hm564, q563_0, q563_3, q563_4, hst, hk, hK⟩
  refine cE_seq (cE_seq (cE_region rfl (s_cons (op_move (iV (k : Int)) q563_4 (s_cons (op_move (iV (i : Int)) q563_3 (s_cons (op_lss (k := .i64) (a := (k : Int)) (b := (i : Int)) rfl rfl (s_nil (then_n ?_))))))))))
  rcases Bool.eq_false_or_eq_true (decide ((k : Int) < (i : Int))) with b567 | b567
  ·have c568 : (k : Int) < (i : Int) := of_decide_eq_true b567
   refine cE_cond true (congrArg Value.bool b567) (fun _ => ?_) (fun h => by cases h)
   refine cE_skip (then_n (cE_seq (cE_block (cE_seq ?_))))
   obtain ⟨g575, hg576⟩ : ∃ x : Bool, x = decide ((((gd l k).S).T) = (((gd l i).S).T)) := ⟨_, rfl⟩
   obtain ⟨g592, hg593⟩ : ∃ x : Bool, x = ((decide ((((gd l k).S).T) = (((gd l i).S).T))) && ((gd l k).Safe)) := ⟨_, rfl⟩
   obtain ⟨g649, hg650⟩ : ∃ x : Bool, x = (g592 && ((gd l i).Safe)) := ⟨_, rfl⟩
   refine cE_regionM (fun (D : Nat → Bool) (w : World) => St w0 w [] ∧ (St w0 w [])) [[(0, none)], [(4, none)], [(56, some 0), (57, some 1)], [(58, some 2)], [(59, some 3)], [(60, some 4)], [(0, none)], [(3, none)], [(62, some 6), (63, some 7)], [(64, some 8)], [(65, some 9)], [(66, some 10)], [(61, some 5), (67, some 11)], [(68, some 12)], [(0, none), (69, some 13)], [(4, none), (69, some 13)], [(70, some 14), (71, some 15), (69, some 13)], [(72, some 16), (69, some 13)], [(73, some 17), (69, some 13)], [(69, some 13), (74, some 18)], [(75, some 19)], [(0, none), (76, some 20)], [(3, none), (76, some 20)], [(77, some 21), (78, some 22), (76, some 20)], [(79, some 23), (76, some 20)], [(80, some 24), (76, some 20)], [(76, some 20), (81, some 25)]] [] [(kEq v_l), (kEq (iV (k : Int))), (kPt0 w0 [(iV (((gd l k).S).T)), (iV (((gd l k).S).V)), (iV ((gd l k).Site)), (iV ((gd l k).View)), (.bool ((gd l k).Safe))]), (kPt0 w0 [(iV (((gd l k).S).T)), (iV (((gd l k).S).V)), (iV ((gd l k).Site)), (iV ((gd l k).View)), (.bool ((gd l k).Safe))]), (kPt0 w0 [(iV (((gd l k).S).T)), (iV (((gd l k).S).V)), (iV ((gd l k).Site)), (iV ((gd l k).View)), (.bool ((gd l k).Safe))]), (kEq (iV (((gd l k).S).T))), (kEq v_l), (kEq (iV (i : Int))), (kPt0 w0 [(iV (((gd l i).S).T)), (iV (((gd l i).S).V)), (iV ((gd l i).Site)), (iV ((gd l i).View)), (.bool ((gd l i).Safe))]), (kPt0 w0 [(iV (((gd l i).S).T)), (iV (((gd l i).S).V)), (iV ((gd l i).Site)), (iV ((gd l i).View)), (.bool ((gd l i).Safe))]), (kPt0 w0 [(iV (((gd l i).S).T)), (iV (((gd l i).S).V)), (iV ((gd l i).Site)), (iV ((gd l i).View)), (.bool ((gd l i).Safe))]), (kEq (iV (((gd l i).S).T))), (kEq (.bool (decide ((((gd l k).S).T) = (((gd l i).S).T))))), (kEq (.bool (decide ((((gd l k).S).T) = (((gd l i).S).T))))), (kEq (bif g575 then v_l else undef)), (kEq (bif g575 then (iV (k : Int)) else undef)), (kPtc w0 g575 [(iV (((gd l k).S).T)), (iV (((gd l k).S).V)), (iV ((gd l k).Site)), (iV ((gd l k).View)), (.bool ((gd l k).Safe))]), (kPtc w0 g575 [(.bool ((gd l k).Safe))]), (kEq (bif g575 then (.bool ((gd l k).Safe)) else undef)), (kEq (.bool g592)), (kEq (.bool g592)), (kEq (bif g592 then v_l else undef)), (kEq (bif g592 then (iV (i : Int)) else undef)), (kPtc w0 g592 [(iV (((gd l i).S).T)), (iV (((gd l i).S).V)), (iV ((gd l i).Site)), (iV ((gd l i).View)), (.bool ((gd l i).Safe))]), (kPtc w0 g592 [(.bool ((gd l i).Safe))]), (kEq (bif g592 then (.bool ((gd l i).Safe)) else undef)), (kEq (.bool g649))] ⟨mEq, mEq, mPt0, mPt0, mPt0, mEq, mEq, mEq, mPt0, mPt0, mPt0, mEq, mEq, mEq, mEq, mEq, mPtc, mPtc, mEq, mEq, mEq, mEq, mEq, mPtc, mPtc, mEq, mEq, trivial⟩ (by kernel_rfl) rfl (by kernel_rfl) ⟨hst.drewW.sub .slnil, hst.drewW⟩ (fun hM => ⟨?_, ?_, ?_, ?_, ?_, ?_, ?_, ?_, ?_, ?_, ?_, ?_, ?_, ?_, ?_, ?_, ?_, ?_, ?_, ?_, ?_, ?_, ?_, ?_, ?_, ?_, ?_, trivial⟩) ?_
   ·rintro D ρo wo nD eD cD jD aD ⟨f0, _⟩
    exact go_plain (op_move v_l (f0.trans q563_0) (kN0 (i := 0) hM (by decide) (by exact jD) (by exact rfl)))
   ·rintro D ρo wo nD eD cD jD aD ⟨f4, _⟩
    exact go_plain (op_move (iV (k : Int)) (f4.trans q563_4) (kN0 (i := 1) hM (by decide) (by exact jD) (by exact rfl)))
   ·rintro D ρo wo nD eD cD jD aD ⟨f56, f57, _⟩
    refine go_plain (op_indexAddrD (E := toldE) (xs := l) k Try.underlying22 Try.sizeOf54 f56 h_l f57 (by omega) (by omega) (fun a652 o653 p654 => ?_))
    exact (kN0 (i := 2) hM (by decide) (by exact jD) (by exact ⟨_, _, rfl, p654⟩))
   ·rintro D ρo wo nD eD cD jD aD ⟨f58, _⟩
    obtain ⟨a655, o656, e657, p658⟩ := f58
    exact go_plain (op_fieldAddr (s := 1) Try.underlying54 rfl rfl Try.sizeOf51 e657 (kN0 (i := 3) hM (by decide) (by exact jD) (by exact ⟨_, _, rfl, p658⟩)))
   ·rintro D ρo wo nD eD cD jD aD ⟨f59, _⟩
    obtain ⟨a659, o660, e661, p662⟩ := f59
    exact go_plain (op_fieldAddr (s := 0) Try.underlying51 rfl rfl Try.sizeOf2 e661 (kN0 (i := 4) hM (by decide) (by exact jD) (by exact ⟨_, _, rfl, p662⟩)))
   ·rintro D ρo wo nD eD cD jD aD ⟨f60, _⟩
    have hst := jD.2 
    replace hst : St w0 wo [] := hst
    obtain ⟨a663, o664, e665, p666⟩ := f60
    exact go_plain (op_load1 (u := (iV (((gd l k).S).T))) Try.isAgg2 e665 (p666.below hst.below) (kN0 (i := 5) hM (by decide) (by exact jD) (by exact rfl)))
   ·rintro D ρo wo nD eD cD jD aD ⟨f0, _⟩
    exact go_plain (op_move v_l (f0.trans q563_0) (kN0 (i := 6) hM (by decide) (by exact jD) (by exact rfl)))
   ·rintro D ρo wo nD eD cD jD aD ⟨f3, _⟩
    exact go_plain (op_move (iV (i : Int)) (f3.trans q563_3) (kN0 (i := 7) hM (by decide) (by exact jD) (by exact rfl)))
   ·rintro D ρo wo nD eD cD jD aD ⟨f62, f63, _⟩
    refine go_plain (op_indexAddrD (E := toldE) (xs := l) i Try.underlying22 Try.sizeOf54 f62 h_l f63 (by omega) (by omega) (fun a667 o668 p669 => ?_))
    exact (kN0 (i := 8) hM (by decide) (by exact jD) (by exact ⟨_, _, rfl, p669⟩))
   ·rintro D ρo wo nD eD cD jD aD ⟨f64, _⟩
    obtain ⟨a670, o671, e672, p673⟩ := f64
    exact go_plain (op_fieldAddr (s := 1) Try.underlying54 rfl rfl Try.sizeOf51 e672 (kN0 (i := 9) hM (by decide) (by exact jD) (by exact ⟨_, _, rfl, p673⟩)))
   ·rintro D ρo wo nD eD cD jD aD ⟨f65, _⟩
    obtain ⟨a674, o675, e676, p677⟩ := f65
    exact go_plain (op_fieldAddr (s := 0) Try.underlying51 rfl rfl Try.sizeOf2 e676 (kN0 (i := 10) hM (by decide) (by exact jD) (by exact ⟨_, _, rfl, p677⟩)))
   ·rintro D ρo wo nD eD cD jD aD ⟨f66, _⟩
    have hst := jD.2 
    replace hst : St w0 wo [] := hst
    obtain ⟨a678, o679, e680, p681⟩ := f66
    exact go_plain (op_load1 (u := (iV (((gd l i).S).T))) Try.isAgg2 e680 (p681.below hst.below) (kN0 (i := 11) hM (by decide) (by exact jD) (by exact rfl)))
   ·rintro D ρo wo nD eD cD jD aD ⟨f61, f67, _⟩
    exact go_plain (op_eql (k := .i64) (a := ((gd l k).S).T) (b := ((gd l i).S).T) f61 f67 (kN0 (i := 12) hM (by decide) (by exact jD) (by exact rfl)))
   ·rintro D ρo wo nD eD cD jD aD ⟨f68, _⟩
    exact go_plain (op_move (.bool (decide ((((gd l k).S).T) = (((gd l i).S).T)))) f68 (kN0 (i := 13) hM (by decide) (by exact jD) (by exact rfl)))
   ·rintro D ρo wo nD eD cD jD aD ⟨f0, f69, _⟩
    refine go_lz 69 rfl ((gA_t f69).trans hg576.symm) ?_ (fun hc682 => (kN0 (i := 14) hM (by decide) (by exact jD) (by exact (gf hc682).symm)))
    intro hc682
    exact id (op_move v_l (f0.trans q563_0) (kN0 (i := 14) hM (by decide) (by exact jD) (by exact (gt hc682).symm)))
   ·rintro D ρo wo nD eD cD jD aD ⟨f4, f69, _⟩
    refine go_lz 69 rfl ((gA_t f69).trans hg576.symm) ?_ (fun hc683 => (kN0 (i := 15) hM (by decide) (by exact jD) (by exact (gf hc683).symm)))
    intro hc683
    exact id (op_move (iV (k : Int)) (f4.trans q563_4) (kN0 (i := 15) hM (by decide) (by exact jD) (by exact (gt hc683).symm)))
   ·rintro D ρo wo nD eD cD jD aD ⟨f70, f71, f69, _⟩
    refine go_lz 69 rfl ((gA_t f69).trans hg576.symm) ?_ (fun hc684 => (kN0 (i := 16) hM (by decide) (by exact jD) (by exact fun h => absurd (show _ = true from h) (by rw [hc684]; decide))))
    intro hc684
    have c685 : (((gd l k).S).T) = (((gd l i).S).T) := of_decide_eq_true (hg576.symm.trans hc684)
    refine id (op_indexAddrD (E := toldE) (xs := l) k Try.underlying22 Try.sizeOf54 (f70.trans (gt hc684)) h_l (f71.trans (gt hc684)) (by omega) (by omega) (fun a686 o687 p688 => ?_))
    exact (kN0 (i := 16) hM (by decide) (by exact jD) (by exact fun _ => ⟨_, _, rfl, p688⟩))
   ·rintro D ρo wo nD eD cD jD aD ⟨f72, f69, _⟩
    refine go_lz 69 rfl ((gA_t f69).trans hg576.symm) ?_ (fun hc689 => (kN0 (i := 17) hM (by decide) (by exact jD) (by exact fun h => absurd (show _ = true from h) (by rw [hc689]; decide))))
    intro hc689
    obtain ⟨a690, o691, e692, p693⟩ := f72 hc689
    exact id (op_fieldAddr (s := 0) Try.underlying54 rfl rfl Try.sizeOf4 e692 (kN0 (i := 17) hM (by decide) (by exact jD) (by exact fun _ => ⟨_, _, rfl, (p693.drop 4)⟩)))
   ·rintro D ρo wo nD eD cD jD aD ⟨f73, f69, _⟩
    refine go_lz 69 rfl ((gA_t f69).trans hg576.symm) ?_ (fun hc694 => (kN0 (i := 18) hM (by decide) (by exact jD) (by exact (gf hc694).symm)))
    intro hc694
    have hst := jD.2 
    replace hst : St w0 wo [] := hst
    obtain ⟨a695, o696, e697, p698⟩ := f73 hc694
    exact id (op_load1 (u := (.bool ((gd l k).Safe))) Try.isAgg4 e697 (p698.below hst.below) (kN0 (i := 18) hM (by decide) (by exact jD) (by exact (gt hc694).symm)))
   ·rintro D ρo wo nD eD cD jD aD ⟨f69, f74, _⟩
    refine go_plain (op_pick_and f69 f74 (fun hp => (hg576.trans hp)) rfl ?_)
    exact (kN0 (i := 19) hM (by decide) (by exact jD) (by exact (congrArg Value.bool hg593.symm)))
   ·rintro D ρo wo nD eD cD jD aD ⟨f75, _⟩
    exact go_plain (op_move (.bool g592) f75 (kN0 (i := 20) hM (by decide) (by exact jD) (by exact rfl)))
   ·rintro D ρo wo nD eD cD jD aD ⟨f0, f76, _⟩
    refine go_lz 76 rfl (gA_t f76) ?_ (fun hc699 => (kN0 (i := 21) hM (by decide) (by exact jD) (by exact (gf hc699).symm)))
    intro hc699
    exact id (op_move v_l (f0.trans q563_0) (kN0 (i := 21) hM (by decide) (by exact jD) (by exact (gt hc699).symm)))
   ·rintro D ρo wo nD eD cD jD aD ⟨f3, f76, _⟩
    refine go_lz 76 rfl (gA_t f76) ?_ (fun hc700 => (kN0 (i := 22) hM (by decide) (by exact jD) (by exact (gf hc700).symm)))
    intro hc700
    exact id (op_move (iV (i : Int)) (f3.trans q563_3) (kN0 (i := 22) hM (by decide) (by exact jD) (by exact (gt hc700).symm)))
   ·rintro D ρo wo nD eD cD jD aD ⟨f77, f78, f76, _⟩
    refine go_lz 76 rfl (gA_t f76) ?_ (fun hc701 => (kN0 (i := 23) hM (by decide) (by exact jD) (by exact fun h => absurd (show _ = true from h) (by rw [hc701]; decide))))
    intro hc701
    have c702 : (((gd l k).S).T) = (((gd l i).S).T) := of_decide_eq_true (and_l (hg593.symm.trans hc701))
    have c703 : ((gd l k).Safe) = true := (and_r (hg593.symm.trans hc701))
    refine id (op_indexAddrD (E := toldE) (xs := l) i Try.underlying22 Try.sizeOf54 (f77.trans (gt hc701)) h_l (f78.trans (gt hc701)) (by omega) (by omega) (fun a704 o705 p706 => ?_))
    exact (kN0 (i := 23) hM (by decide) (by exact jD) (by exact fun _ => ⟨_, _, rfl, p706⟩))
   ·rintro D ρo wo nD eD cD jD aD ⟨f79, f76, _⟩
    refine go_lz 76 rfl (gA_t f76) ?_ (fun hc707 => (kN0 (i := 24) hM (by decide) (by exact jD) (by exact fun h => absurd (show _ = true from h) (by rw [hc707]; decide))))
    intro hc707
    obtain ⟨a708, o709, e710, p711⟩ := f79 hc707
    exact id (op_fieldAddr (s := 0) Try.underlying54 rfl rfl Try.sizeOf4 e710 (kN0 (i := 24) hM (by decide) (by exact jD) (by exact fun _ => ⟨_, _, rfl, (p711.drop 4)⟩)))
   ·rintro D ρo wo nD eD cD jD aD ⟨f80, f76, _⟩
    refine go_lz 76 rfl (gA_t f76) ?_ (fun hc712 => (kN0 (i := 25) hM (by decide) (by exact jD) (by exact (gf hc712).symm)))
    intro hc712
    have hst := jD.2 
    replace hst : St w0 wo [] := hst
    obtain ⟨a713, o714, e715, p716⟩ := f80 hc712
    exact id (op_load1 (u := (.bool ((gd l i).Safe))) Try.isAgg4 e715 (p716.below hst.below) (kN0 (i := 25) hM (by decide) (by exact jD) (by exact (gt hc712).symm)))
   ·rintro D ρo wo nD eD cD jD aD ⟨f76, f81, _⟩
    refine go_plain (op_pick_and f76 f81 (fun hp => hp) rfl ?_)
    exact (kN0 (i := 26) hM (by decide) (by exact jD) (by exact (congrArg Value.bool hg650.symm)))
   intro ρ717 w718 Dw718 hallw718 hJw718 hRw718 hkw718
   have hst : St w0 w718 [] := hJw718.2 
   have uw718_0 : ρ717 0 = v_l := (hkw718 0 rfl).trans q563_0
   have uw718_3 : ρ717 3 = (iV (i : Int)) := (hkw718 3 rfl).trans q563_3
   have uw718_4 : ρ717 4 = (iV (k : Int)) := (hkw718 4 rfl).trans q563_4
   have uw718_51 : ρ717 51 = (iV (k : Int)) := (hkw718 51 rfl).trans rfl
   have uw718_52 : ρ717 52 = (iV (i : Int)) := (hkw718 52 rfl).trans rfl
   have uw718_53 : ρ717 53 = (.bool (decide ((k : Int) < (i : Int)))) := (hkw718 53 rfl).trans rfl
   have uw718_82 : ρ717 82 = (.bool g649) := hRw718 26 82 rfl
   refine then_n ?_
   rcases Bool.eq_false_or_eq_true g649 with b719 | b719
   ·have c720 : (((gd l k).S).T) = (((gd l i).S).T) := of_decide_eq_true (and_l (hg593.symm.trans (and_l (hg650.symm.trans b719))))
    have c721 : ((gd l k).Safe) = true := (and_r (hg593.symm.trans (and_l (hg650.symm.trans b719))))
    have c722 : ((gd l i).Safe) = true := (and_r (hg650.symm.trans b719))
    refine cE_cond true (uw718_82.trans (congrArg Value.bool b719)) (fun _ => ?_) (fun h => by cases h)
    refine cE_seq (cE_region rfl (s_cons (op_assign (.bool false) rfl (s_nil (then_n (cE_ret (block_r (then_r (then_r (block_r (block_r (then_r (then_r (block_r (then_r (post_r _ (res1 (v := (.bool false)) rfl) ?_))))))))))))))))
    exact ⟨(retv1 (congrArg Value.bool (show false = (toldJ l) from by first | exact (told_bad1 (i := i) (by omega) (by omega)).symm | exact (told_bad2 (i := i) (by omega) (k := k) (by omega) (by assumption) (by assumption) (by assumption)).symm | exact (told_all hI (by omega)).symm))), hst.bare⟩
   have c723 : ¬ ((((((gd l k).S).T) = (((gd l i).S).T)) ∧ (((gd l k).Safe) = true)) ∧ (((gd l i).Safe) = true)) := pi_f (pi_and (pi_name hg593 (pi_and pi_dec pi_self)) pi_self) (hg650.symm.trans b719)
   refine cE_cond false (uw718_82.trans (congrArg Value.bool b719)) (fun h => by cases h) (fun _ => ?_)
   refine cE_skip (block_n (then_n (cE_region rfl (s_cons (op_move (iV (k : Int)) uw718_4 (s_cons (op_add (k := .i64) (a := (k : Int)) (b := 1) ((k : Int) + 1) rfl rfl (xi64 (by omega) (by omega)) (s_cons (op_assign (iV ((k : Int) + 1)) rfl (s_nil (then_n ?_)))))))))))
   exact ⟨_, ⟨(k + 1), rfl, uw718_0, uw718_3, (congrArg iV (show ((k : Int) + 1) = _ from by omega)), hst, (by omega), (by first | exact told_nilR | exact told_nextR (by omega) hK (by assumption))⟩, (by simp only [id]; omega)⟩
  have c724 : ¬ ((k : Int) < (i : Int)) := of_decide_eq_false b567
  refine cE_cond false (congrArg Value.bool b567) (fun h => by cases h) (fun _ => ?_)
  refine cE_exit (then_x (then_x (block_hit (block_n (then_n (cE_region rfl (s_cons (op_move (iV (i : Int)) q563_3 (s_cons (op_add (k := .i64) (a := (i : Int)) (b := 1) ((i : Int) + 1) rfl rfl (xi64 (by omega) (by omega)) (s_cons (op_assign (iV ((i : Int) + 1)) rfl (s_nil (then_n ?_))))))))))))))
  exact ⟨_, ⟨(i + 1), rfl, q563_0, (congrArg iV (show ((i : Int) + 1) = _ from by omega)), hst, (by omega), (by first | rfl | exact told_stepR hI (by omega) (by omega) hK)⟩, (by simp only [id]; omega)⟩
 have c725 : ¬ ((i : Int) < (l.length : Int)) := of_decide_eq_false b5
 refine cE_cond false (congrArg Value.bool b5) (fun h => by cases h) (fun _ => ?_)
 refine cE_exit (then_x (then_x (block_hit (then_n (cE_seq (cE_region rfl (s_cons (op_assign (.bool true) rfl (s_nil (then_n (cE_ret (post_r _ (res1 (v := (.bool true)) rfl) ?_))))))))))))
 exact ⟨(retv1 (congrArg Value.bool (show true = (toldJ l) from by first | exact (told_bad1 (i := i) (by omega) (by omega)).symm | exact (told_bad2 (i := i) (by omega) (k := k) (by omega) (by assumption) (by assumption) (by assumption)).symm | exact (told_all hI (by omega)).symm))), hst.bare⟩

set_option maxRecDepth 8000 in
set_option maxHeartbeats 8000000 in
theorem c_rContent (w0 : World) (v_l : Value) (l : List Told) (h_l : Sl w0 toldE v_l l) (v_h : Value) (h : List Sample) (h_h : Sl w0 sampE v_h h) (hho : ∀ s ∈ h, s.ok) :
  Calls Try.prog 12 #[v_l, v_h] w0 fun e w' => e = .returned (iV (contentC l h)) ∧ St w0 w' [] := by
 refine calls_E (n := 74) (ts := [4]) Try.func12 rfl rfl rfl (by simp) ?_
 have hst := St.start w0
 refine cE_seq (cE_region rfl (s_cons (op_assign (iV 0) rfl (s_nil (then_n (cE_seq (cE_seq (cE_region rfl (s_cons (op_move v_h rfl (s_cons (op_call Try.call23 (evs_cons (v := v_h) rfl evs_nil) (c_rRising (w0 := w0) (v_l := v_h) (l := h) (h_l := (h_h.below hst.below)) (hl := hho)) ?_))))))))))))
 rintro _ w726 ⟨rfl, hcall⟩
 refine ⟨_, rfl, ?_⟩
 have hst : St w0 w726 [] := hst.call hcall
 refine s_cons (op_not (b := risingA h) rfl (s_nil (then_n ?_)))
 rcases Bool.eq_false_or_eq_true (risingA h) with b727 | b727
 ·refine cE_cond false (congrArg Value.bool (congrArg (! ·) b727)) (fun h => by cases h) (fun _ => ?_)
  refine cE_skip (then_n (cE_seq (cE_seq (cE_region rfl (s_cons (op_assign (iV 0) rfl (s_nil (then_n (cE_block (cE_loop (fun (m : Nat) (ρ : Env) (w : World) => ∃ (i : Nat), m = h.length - i ∧ ρ 0 = v_l ∧ ρ 1 = v_h ∧ ρ 5 = (iV (i : Int)) ∧ St w0 w [] ∧ (i ≤ h.length) ∧ ((h.take i).any (fun s => !saidB l s) = false)) id _ ⟨0, rfl, rfl, rfl, (congrArg iV (show 0 = _ from by omega)), hst, (by omega), (by first | rfl | exact none_stepR (l := l) (k := k) (by omega) hN (by assumption) (by omega))⟩ ?_))))))))))
  rintro m729 ρ730 w731 ⟨i, hm729, q728_0, q728_1, q728_5, hst, hi, hN⟩
  have hlen := h_l.len
  have hlen2 := h_h.len
  refine cE_seq (cE_seq (cE_region rfl (s_cons (op_move (iV (i : Int)) q728_5 (s_cons (op_move v_h q728_1 (s_cons (op_len (E := sampE) (xs := h) Try.underlying23 rfl h_h (s_cons (op_lss (k := .i64) (a := (i : Int)) (b := (h.length : Int)) rfl rfl (s_nil (then_n ?_))))))))))))
  rcases Bool.eq_false_or_eq_true (decide ((i : Int) < (h.length : Int))) with b732 | b732
  ·have c733 : (i : Int) < (h.length : Int) := of_decide_eq_true b732
   refine cE_cond true (congrArg Value.bool b732) (fun _ => ?_) (fun h => by cases h)
   refine cE_skip (then_n (cE_seq (cE_block (cE_seq (cE_region rfl (s_cons (op_assign (.bool false) rfl (s_nil (then_n (cE_seq (cE_seq (cE_region rfl (s_cons (op_assign (iV 0) rfl (s_nil (then_n (cE_block (cE_loop (fun (m : Nat) (ρ : Env) (w : World) => ∃ (k : Nat), m = l.length - k ∧ ρ 0 = v_l ∧ ρ 1 = v_h ∧ ρ 5 = (iV (i : Int)) ∧ ρ 6 = (.bool (saidB (l.take k) (gd h i))) ∧ ρ 7 = (iV (k : Int)) ∧ St w0 w [] ∧ (k ≤ l.length)) id _ ⟨0, rfl, q728_0, q728_1, q728_5, (congrArg Value.bool (show false = _ from by first | rfl | (rw [Bool.or_false]; exact (said_snoc (by omega) _).symm))), (congrArg iV (show 0 = _ from by omega)), hst, (by omega)⟩ ?_))))))))))))))))))
   rintro m735 ρ736 w737 ⟨k, hm735, q734_0, q734_1, q734_5, q734_6, q734_7, hst, hk⟩
   refine cE_seq (cE_seq (cE_region rfl (s_cons (op_move (iV (k : Int)) q734_7 (s_cons (op_move v_l q734_0 (s_cons (op_len (E := toldE) (xs := l) Try.underlying22 rfl h_l (s_cons (op_lss (k := .i64) (a := (k : Int)) (b := (l.length : Int)) rfl rfl (s_nil (then_n ?_))))))))))))
   rcases Bool.eq_false_or_eq_true (decide ((k : Int) < (l.length : Int))) with b738 | b738
   ·have c739 : (k : Int) < (l.length : Int) := of_decide_eq_true b738
    refine cE_cond true (congrArg Value.bool b738) (fun _ => ?_) (fun h => by cases h)
    refine cE_skip (then_n (cE_seq (cE_block ?_)))
    obtain ⟨g806, hg807⟩ : ∃ x : Bool, x = ((saidB (l.take k) (gd h i)) || (decide (((gd l k).S) = (gd h i)))) := ⟨_, rfl⟩
    refine cE_regionM (fun (D : Nat → Bool) (w : World) => St w0 w [] ∧ (St w0 w [])) [[(6, none)], [(26, some 0)], [(0, none), (27, some 1)], [(7, none), (27, some 1)], [(28, some 2), (29, some 3), (27, some 1)], [(30, some 4), (27, some 1)], [(31, some 5), (27, some 1)], [(1, none), (27, some 1)], [(5, none), (27, some 1)], [(33, some 7), (34, some 8), (27, some 1)], [(35, some 9), (27, some 1)], [(32, some 6), (36, some 10), (27, some 1)], [(27, some 1), (37, some 11)], [(38, some 12)]] [] [(kEq (.bool (saidB (l.take k) (gd h i)))), (kEq (.bool (saidB (l.take k) (gd h i)))), (kEq (bif (!(saidB (l.take k) (gd h i))) then v_l else undef)), (kEq (bif (!(saidB (l.take k) (gd h i))) then (iV (k : Int)) else undef)), (kPtc w0 (!(saidB (l.take k) (gd h i))) [(iV (((gd l k).S).T)), (iV (((gd l k).S).V)), (iV ((gd l k).Site)), (iV ((gd l k).View)), (.bool ((gd l k).Safe))]), (kPtc w0 (!(saidB (l.take k) (gd h i))) [(iV (((gd l k).S).T)), (iV (((gd l k).S).V)), (iV ((gd l k).Site)), (iV ((gd l k).View)), (.bool ((gd l k).Safe))]), (kEq (bif (!(saidB (l.take k) (gd h i))) then (.agg #[(iV (((gd l k).S).T)), (iV (((gd l k).S).V))]) else undef)), (kEq (bif (!(saidB (l.take k) (gd h i))) then v_h else undef)), (kEq (bif (!(saidB (l.take k) (gd h i))) then (iV (i : Int)) else undef)), (kPtc w0 (!(saidB (l.take k) (gd h i))) [(iV ((gd h i).T)), (iV ((gd h i).V))]), (kEq (bif (!(saidB (l.take k) (gd h i))) then (.agg #[(iV ((gd h i).T)), (iV ((gd h i).V))]) else undef)), (kEq (bif (!(saidB (l.take k) (gd h i))) then (.bool (decide (((gd l k).S) = (gd h i)))) else undef)), (kEq (.bool g806)), (kEq (.bool g806))] ⟨mEq, mEq, mEq, mEq, mPtc, mPtc, mEq, mEq, mEq, mPtc, mEq, mEq, mEq, mEq, trivial⟩ (by kernel_rfl) rfl (by kernel_rfl) ⟨hst.drewW.sub .slnil, hst.drewW⟩ (fun hM => ⟨?_, ?_, ?_, ?_, ?_, ?_, ?_, ?_, ?_, ?_, ?_, ?_, ?_, ?_, trivial⟩) ?_
    ·rintro D ρo wo nD eD cD jD aD ⟨f6, _⟩
     exact go_plain (op_move (.bool (saidB (l.take k) (gd h i))) (f6.trans q734_6) (kN0 (i := 0) hM (by decide) (by exact jD) (by exact rfl)))
    ·rintro D ρo wo nD eD cD jD aD ⟨f26, _⟩
     exact go_plain (op_move (.bool (saidB (l.take k) (gd h i))) f26 (kN0 (i := 1) hM (by decide) (by exact jD) (by exact rfl)))
    ·rintro D ρo wo nD eD cD jD aD ⟨f0, f27, _⟩
     refine go_lz 27 rfl (gA_f f27) ?_ (fun hc809 => (kN0 (i := 2) hM (by decide) (by exact jD) (by exact (gf hc809).symm)))
     intro hc809
     exact id (op_move v_l (f0.trans q734_0) (kN0 (i := 2) hM (by decide) (by exact jD) (by exact (gt hc809).symm)))
    ·rintro D ρo wo nD eD cD jD aD ⟨f7, f27, _⟩
     refine go_lz 27 rfl (gA_f f27) ?_ (fun hc810 => (kN0 (i := 3) hM (by decide) (by exact jD) (by exact (gf hc810).symm)))
     intro hc810
     exact id (op_move (iV (k : Int)) (f7.trans q734_7) (kN0 (i := 3) hM (by decide) (by exact jD) (by exact (gt hc810).symm)))
    ·rintro D ρo wo nD eD cD jD aD ⟨f28, f29, f27, _⟩
     refine go_lz 27 rfl (gA_f f27) ?_ (fun hc811 => (kN0 (i := 4) hM (by decide) (by exact jD) (by exact fun h => absurd (show _ = true from h) (by rw [hc811]; decide))))
     intro hc811
     have c812 : (saidB (l.take k) (gd h i)) = false := (not_t hc811)
     refine id (op_indexAddrD (E := toldE) (xs := l) k Try.underlying22 Try.sizeOf54 (f28.trans (gt (congrArg (! ·) c812))) h_l (f29.trans (gt (congrArg (! ·) c812))) (by omega) (by omega) (fun a813 o814 p815 => ?_))
     exact (kN0 (i := 4) hM (by decide) (by exact jD) (by exact fun _ => ⟨_, _, rfl, p815⟩))
    ·rintro D ρo wo nD eD cD jD aD ⟨f30, f27, _⟩
     refine go_lz 27 rfl (gA_f f27) ?_ (fun hc816 => (kN0 (i := 5) hM (by decide) (by exact jD) (by exact fun h => absurd (show _ = true from h) (by rw [hc816]; decide))))
     intro hc816
     obtain ⟨a817, o818, e819, p820⟩ := f30 (congrArg (! ·) (not_t hc816))
     exact id (op_fieldAddr (s := 1) Try.underlying54 rfl rfl Try.sizeOf51 e819 (kN0 (i := 5) hM (by decide) (by exact jD) (by exact fun _ => ⟨_, _, rfl, p820⟩)))
    ·rintro D ρo wo nD eD cD jD aD ⟨f31, f27, _⟩
     refine go_lz 27 rfl (gA_f f27) ?_ (fun hc821 => (kN0 (i := 6) hM (by decide) (by exact jD) (by exact (gf hc821).symm)))
     intro hc821
     have hst := jD.2 
     replace hst : St w0 wo [] := hst
     obtain ⟨a822, o823, e824, p825⟩ := f31 (congrArg (! ·) (not_t hc821))
     exact id (op_loadN (cs := [(iV (((gd l k).S).T)), (iV (((gd l k).S).V))]) Try.isAgg51 Try.sizeOf51 e824 (Pt.of (p825.below hst.below) rfl) rfl (kN0 (i := 6) hM (by decide) (by exact jD) (by exact (gt hc821).symm)))
    ·rintro D ρo wo nD eD cD jD aD ⟨f1, f27, _⟩
     refine go_lz 27 rfl (gA_f f27) ?_ (fun hc826 => (kN0 (i := 7) hM (by decide) (by exact jD) (by exact (gf hc826).symm)))
     intro hc826
     exact id (op_move v_h (f1.trans q734_1) (kN0 (i := 7) hM (by decide) (by exact jD) (by exact (gt hc826).symm)))
    ·rintro D ρo wo nD eD cD jD aD ⟨f5, f27, _⟩
     refine go_lz 27 rfl (gA_f f27) ?_ (fun hc827 => (kN0 (i := 8) hM (by decide) (by exact jD) (by exact (gf hc827).symm)))
     intro hc827
     exact id (op_move (iV (i : Int)) (f5.trans q734_5) (kN0 (i := 8) hM (by decide) (by exact jD) (by exact (gt hc827).symm)))
    ·rintro D ρo wo nD eD cD jD aD ⟨f33, f34, f27, _⟩
     refine go_lz 27 rfl (gA_f f27) ?_ (fun hc828 => (kN0 (i := 9) hM (by decide) (by exact jD) (by exact fun h => absurd (show _ = true from h) (by rw [hc828]; decide))))
     intro hc828
     have c829 : (saidB (l.take k) (gd h i)) = false := (not_t hc828)
     refine id (op_indexAddrD (E := sampE) (xs := h) i Try.underlying23 Try.sizeOf51 (f33.trans (gt (congrArg (! ·) c829))) h_h (f34.trans (gt (congrArg (! ·) c829))) (by omega) (by omega) (fun a830 o831 p832 => ?_))
     exact (kN0 (i := 9) hM (by decide) (by exact jD) (by exact fun _ => ⟨_, _, rfl, p832⟩))
    ·rintro D ρo wo nD eD cD jD aD ⟨f35, f27, _⟩
     refine go_lz 27 rfl (gA_f f27) ?_ (fun hc833 => (kN0 (i := 10) hM (by decide) (by exact jD) (by exact (gf hc833).symm)))
     intro hc833
     have hst := jD.2 
     replace hst : St w0 wo [] := hst
     obtain ⟨a834, o835, e836, p837⟩ := f35 (congrArg (! ·) (not_t hc833))
     exact id (op_loadN (cs := [(iV ((gd h i).T)), (iV ((gd h i).V))]) Try.isAgg51 Try.sizeOf51 e836 (Pt.of (p837.below hst.below) rfl) rfl (kN0 (i := 10) hM (by decide) (by exact jD) (by exact (gt hc833).symm)))
    ·rintro D ρo wo nD eD cD jD aD ⟨f32, f36, f27, _⟩
     refine go_lz 27 rfl (gA_f f27) ?_ (fun hc838 => (kN0 (i := 11) hM (by decide) (by exact jD) (by exact (gf hc838).symm)))
     intro hc838
     exact id (op_eqlG Try.eqGuardType51 (Try.eqSample ((gd l k).S) (gd h i) _) (f32.trans (gt (congrArg (! ·) (not_t hc838)))) (f36.trans (gt (congrArg (! ·) (not_t hc838)))) (kN0 (i := 11) hM (by decide) (by exact jD) (by exact (gt hc838).symm)))
    ·rintro D ρo wo nD eD cD jD aD ⟨f27, f37, _⟩
     refine go_plain (op_pick_or f27 rfl f37 (fun hp => (congrArg (! ·) hp)) ?_)
     exact (kN0 (i := 12) hM (by decide) (by exact jD) (by exact (congrArg Value.bool hg807.symm)))
    ·rintro D ρo wo nD eD cD jD aD ⟨f38, _⟩
     exact go_plain (op_assign (.bool g806) f38 (kN0 (i := 13) hM (by decide) (by exact jD) (by exact rfl)))
    intro ρ839 w840 Dw840 hallw840 hJw840 hRw840 hkw840
    have hst : St w0 w840 [] := hJw840.2 
    have uw840_0 : ρ839 0 = v_l := (hkw840 0 rfl).trans q734_0
    have uw840_1 : ρ839 1 = v_h := (hkw840 1 rfl).trans q734_1
    have uw840_5 : ρ839 5 = (iV (i : Int)) := (hkw840 5 rfl).trans q734_5
    have uw840_7 : ρ839 7 = (iV (k : Int)) := (hkw840 7 rfl).trans q734_7
    have uw840_20 : ρ839 20 = (iV (k : Int)) := (hkw840 20 rfl).trans rfl
    have uw840_21 : ρ839 21 = v_l := (hkw840 21 rfl).trans rfl
    have uw840_22 : ρ839 22 = (iV (l.length : Int)) := (hkw840 22 rfl).trans rfl
    have uw840_23 : ρ839 23 = (.bool (decide ((k : Int) < (l.length : Int)))) := (hkw840 23 rfl).trans rfl
    have uw840_6 : ρ839 6 = (.bool g806) := hRw840 13 6 rfl
    refine block_n (then_n (cE_region rfl (s_cons (op_move (iV (k : Int)) uw840_7 (s_cons (op_add (k := .i64) (a := (k : Int)) (b := 1) ((k : Int) + 1) rfl rfl (xi64 (by omega) (by omega)) (s_cons (op_assign (iV ((k : Int) + 1)) rfl (s_nil (then_n ?_))))))))))
    exact ⟨_, ⟨(k + 1), rfl, uw840_0, uw840_1, uw840_5, (uw840_6.trans (congrArg Value.bool (show g806 = _ from by first | rfl | (rw [hg807]; exact (said_snoc (by omega) _).symm)))), (congrArg iV (show ((k : Int) + 1) = _ from by omega)), hst, (by omega)⟩, (by simp only [id]; omega)⟩
   have c841 : ¬ ((k : Int) < (l.length : Int)) := of_decide_eq_false b738
   refine cE_cond false (congrArg Value.bool b738) (fun h => by cases h) (fun _ => ?_)
   refine cE_exit (then_x (then_x (block_hit (then_n (cE_seq (cE_region rfl (s_cons (op_move (.bool (saidB (l.take k) (gd h i))) q734_6 (s_cons (op_not (b := (saidB (l.take k) (gd h i))) rfl (s_nil (then_n ?_))))))))))))
   rcases Bool.eq_false_or_eq_true (saidB (l.take k) (gd h i)) with b842 | b842
   ·refine cE_cond false (congrArg Value.bool (congrArg (! ·) b842)) (fun h => by cases h) (fun _ => ?_)
    refine cE_skip (block_n (then_n (cE_region rfl (s_cons (op_move (iV (i : Int)) q734_5 (s_cons (op_add (k := .i64) (a := (i : Int)) (b := 1) ((i : Int) + 1) rfl rfl (xi64 (by omega) (by omega)) (s_cons (op_assign (iV ((i : Int) + 1)) rfl (s_nil (then_n ?_)))))))))))
    exact ⟨_, ⟨(i + 1), rfl, q734_0, q734_1, (congrArg iV (show ((i : Int) + 1) = _ from by omega)), hst, (by omega), (by first | rfl | exact none_stepR (l := l) (k := k) (by omega) hN (by assumption) (by omega))⟩, (by simp only [id]; omega)⟩
   refine cE_cond true (congrArg Value.bool (congrArg (! ·) b842)) (fun _ => ?_) (fun h => by cases h)
   refine cE_seq (cE_region rfl (s_cons (op_assign (iV 2) rfl (s_nil (then_n (cE_ret (block_r (then_r (then_r (block_r (then_r (post_r _ (res1 (v := (iV 2)) rfl) ?_))))))))))))
   exact ⟨(retv1 (congrArg iV (show 2 = (contentC l h) from by first | exact (content_1 (by assumption)).symm | exact (content_2R (k := k) (by assumption) (i := i) (by omega) (by assumption) (by omega)).symm | exact (content_3R (by assumption) hNA (k := q) (i := j) (by omega) (by assumption) (by omega)).symm | exact (content_0R (by assumption) hNA hQ (by omega)).symm))), hst.bare⟩
  have c843 : ¬ ((i : Int) < (h.length : Int)) := of_decide_eq_false b732
  refine cE_cond false (congrArg Value.bool b732) (fun h => by cases h) (fun _ => ?_)
  refine cE_exit (then_x (then_x (block_hit (then_n (cE_seq (cE_seq ?_))))))
  have hNA := any_end hN (by omega)
  refine cE_region rfl (s_cons (op_assign (iV 0) rfl (s_nil (then_n (cE_block (cE_loop (fun (m : Nat) (ρ : Env) (w : World) => ∃ (q : Nat), m = l.length - q ∧ ρ 0 = v_l ∧ ρ 1 = v_h ∧ ρ 5 = (iV (i : Int)) ∧ ρ 8 = (iV (q : Int)) ∧ St w0 w [] ∧ (q ≤ l.length) ∧ ((l.take q).any (fun x => x.Safe && !decide (x.S ∈ h)) = false)) id _ ⟨0, rfl, q728_0, q728_1, q728_5, (congrArg iV (show 0 = _ from by omega)), hst, (by omega), (by first | rfl | exact need_stepR (h := h) (i := j) (by omega) hQ (by assumption) (by omega))⟩ ?_))))))
  rintro m845 ρ846 w847 ⟨q, hm845, q844_0, q844_1, q844_5, q844_8, hst, hq, hQ⟩
  refine cE_seq (cE_seq (cE_region rfl (s_cons (op_move (iV (q : Int)) q844_8 (s_cons (op_move v_l q844_0 (s_cons (op_len (E := toldE) (xs := l) Try.underlying22 rfl h_l (s_cons (op_lss (k := .i64) (a := (q : Int)) (b := (l.length : Int)) rfl rfl (s_nil (then_n ?_))))))))))))
  rcases Bool.eq_false_or_eq_true (decide ((q : Int) < (l.length : Int))) with b848 | b848
  ·have c849 : (q : Int) < (l.length : Int) := of_decide_eq_true b848
   refine cE_cond true (congrArg Value.bool b848) (fun _ => ?_) (fun h => by cases h)
   refine cE_skip (then_n (cE_seq (cE_block (cE_seq (cE_region rfl (s_cons (op_move v_l q844_0 (s_cons (op_move (iV (q : Int)) q844_8 (s_cons (op_indexAddrD (E := toldE) (xs := l) q Try.underlying22 Try.sizeOf54 rfl h_l rfl (by omega) (by omega) (fun a850 o851 p852 => ?_))))))))))))
   refine s_cons (op_fieldAddr (s := 0) Try.underlying54 rfl rfl Try.sizeOf4 rfl (s_cons (op_load1 (u := (.bool ((gd l q).Safe))) Try.isAgg4 rfl ((p852.below hst.below).drop 4) (s_cons (op_not (b := (gd l q).Safe) rfl (s_cons (op_assign (.bool (!((gd l q).Safe))) rfl (s_nil (then_n (cE_seq (cE_seq (cE_region rfl (s_cons (op_assign (iV 0) rfl (s_nil (then_n (cE_block (cE_loop (fun (m : Nat) (ρ : Env) (w : World) => ∃ (j : Nat), m = h.length - j ∧ ρ 0 = v_l ∧ ρ 1 = v_h ∧ ρ 5 = (iV (i : Int)) ∧ ρ 8 = (iV (q : Int)) ∧ ρ 9 = (.bool ((!(gd l q).Safe) || decide ((gd l q).S ∈ h.take j))) ∧ ρ 10 = (iV (j : Int)) ∧ St w0 w [] ∧ (j ≤ h.length)) id _ ⟨0, rfl, q844_0, q844_1, q844_5, q844_8, (congrArg Value.bool (show (!((gd l q).Safe)) = _ from by first | rfl | exact (need_nil _ _).symm | (rw [Bool.or_false]; exact there_snoc (by omega) _ _))), (congrArg iV (show 0 = _ from by omega)), hst, (by omega)⟩ ?_))))))))))))))))))
   rintro m854 ρ855 w856 ⟨j, hm854, q853_0, q853_1, q853_5, q853_8, q853_9, q853_10, hst, hj⟩
   refine cE_seq (cE_seq (cE_region rfl (s_cons (op_move (iV (j : Int)) q853_10 (s_cons (op_move v_h q853_1 (s_cons (op_len (E := sampE) (xs := h) Try.underlying23 rfl h_h (s_cons (op_lss (k := .i64) (a := (j : Int)) (b := (h.length : Int)) rfl rfl (s_nil (then_n ?_))))))))))))
   rcases Bool.eq_false_or_eq_true (decide ((j : Int) < (h.length : Int))) with b857 | b857
   ·have c858 : (j : Int) < (h.length : Int) := of_decide_eq_true b857
    refine cE_cond true (congrArg Value.bool b857) (fun _ => ?_) (fun h => by cases h)
    refine cE_skip (then_n (cE_seq (cE_block ?_)))
    obtain ⟨g859, hg860⟩ : ∃ x : Bool, x = !((!(gd l q).Safe) || decide ((gd l q).S ∈ h.take j)) := ⟨_, rfl⟩
    obtain ⟨g927, hg928⟩ : ∃ x : Bool, x = (((!(gd l q).Safe) || decide ((gd l q).S ∈ h.take j)) || (decide (((gd l q).S) = (gd h j)))) := ⟨_, rfl⟩
    refine cE_regionM (fun (D : Nat → Bool) (w : World) => St w0 w [] ∧ (St w0 w [])) [[(9, none)], [(59, some 0)], [(0, none), (60, some 1)], [(8, none), (60, some 1)], [(61, some 2), (62, some 3), (60, some 1)], [(63, some 4), (60, some 1)], [(64, some 5), (60, some 1)], [(1, none), (60, some 1)], [(10, none), (60, some 1)], [(66, some 7), (67, some 8), (60, some 1)], [(68, some 9), (60, some 1)], [(65, some 6), (69, some 10), (60, some 1)], [(60, some 1), (70, some 11)], [(71, some 12)]] [] [(kEq (.bool ((!(gd l q).Safe) || decide ((gd l q).S ∈ h.take j)))), (kEq (.bool ((!(gd l q).Safe) || decide ((gd l q).S ∈ h.take j)))), (kEq (bif g859 then v_l else undef)), (kEq (bif g859 then (iV (q : Int)) else undef)), (kPtc w0 g859 [(iV (((gd l q).S).T)), (iV (((gd l q).S).V)), (iV ((gd l q).Site)), (iV ((gd l q).View)), (.bool ((gd l q).Safe))]), (kPtc w0 g859 [(iV (((gd l q).S).T)), (iV (((gd l q).S).V)), (iV ((gd l q).Site)), (iV ((gd l q).View)), (.bool ((gd l q).Safe))]), (kEq (bif g859 then (.agg #[(iV (((gd l q).S).T)), (iV (((gd l q).S).V))]) else undef)), (kEq (bif g859 then v_h else undef)), (kEq (bif g859 then (iV (j : Int)) else undef)), (kPtc w0 g859 [(iV ((gd h j).T)), (iV ((gd h j).V))]), (kEq (bif g859 then (.agg #[(iV ((gd h j).T)), (iV ((gd h j).V))]) else undef)), (kEq (bif g859 then (.bool (decide (((gd l q).S) = (gd h j)))) else undef)), (kEq (.bool g927)), (kEq (.bool g927))] ⟨mEq, mEq, mEq, mEq, mPtc, mPtc, mEq, mEq, mEq, mPtc, mEq, mEq, mEq, mEq, trivial⟩ (by kernel_rfl) rfl (by kernel_rfl) ⟨hst.drewW.sub .slnil, hst.drewW⟩ (fun hM => ⟨?_, ?_, ?_, ?_, ?_, ?_, ?_, ?_, ?_, ?_, ?_, ?_, ?_, ?_, trivial⟩) ?_
    ·rintro D ρo wo nD eD cD jD aD ⟨f9, _⟩
     exact go_plain (op_move (.bool ((!(gd l q).Safe) || decide ((gd l q).S ∈ h.take j))) (f9.trans q853_9) (kN0 (i := 0) hM (by decide) (by exact jD) (by exact rfl)))
    ·rintro D ρo wo nD eD cD jD aD ⟨f59, _⟩
     exact go_plain (op_move (.bool ((!(gd l q).Safe) || decide ((gd l q).S ∈ h.take j))) f59 (kN0 (i := 1) hM (by decide) (by exact jD) (by exact rfl)))
    ·rintro D ρo wo nD eD cD jD aD ⟨f0, f60, _⟩
     refine go_lz 60 rfl ((gA_f f60).trans hg860.symm) ?_ (fun hc930 => (kN0 (i := 2) hM (by decide) (by exact jD) (by exact (gf hc930).symm)))
     intro hc930
     exact id (op_move v_l (f0.trans q853_0) (kN0 (i := 2) hM (by decide) (by exact jD) (by exact (gt hc930).symm)))
    ·rintro D ρo wo nD eD cD jD aD ⟨f8, f60, _⟩
     refine go_lz 60 rfl ((gA_f f60).trans hg860.symm) ?_ (fun hc931 => (kN0 (i := 3) hM (by decide) (by exact jD) (by exact (gf hc931).symm)))
     intro hc931
     exact id (op_move (iV (q : Int)) (f8.trans q853_8) (kN0 (i := 3) hM (by decide) (by exact jD) (by exact (gt hc931).symm)))
    ·rintro D ρo wo nD eD cD jD aD ⟨f61, f62, f60, _⟩
     refine go_lz 60 rfl ((gA_f f60).trans hg860.symm) ?_ (fun hc932 => (kN0 (i := 4) hM (by decide) (by exact jD) (by exact fun h => absurd (show _ = true from h) (by rw [hc932]; decide))))
     intro hc932
     have c933 : ((!(gd l q).Safe) || decide ((gd l q).S ∈ h.take j)) = false := (not_t (hg860.symm.trans hc932))
     refine id (op_indexAddrD (E := toldE) (xs := l) q Try.underlying22 Try.sizeOf54 (f61.trans (gt hc932)) h_l (f62.trans (gt hc932)) (by omega) (by omega) (fun a934 o935 p936 => ?_))
     exact (kN0 (i := 4) hM (by decide) (by exact jD) (by exact fun _ => ⟨_, _, rfl, p936⟩))
    ·rintro D ρo wo nD eD cD jD aD ⟨f63, f60, _⟩
     refine go_lz 60 rfl ((gA_f f60).trans hg860.symm) ?_ (fun hc937 => (kN0 (i := 5) hM (by decide) (by exact jD) (by exact fun h => absurd (show _ = true from h) (by rw [hc937]; decide))))
     intro hc937
     obtain ⟨a938, o939, e940, p941⟩ := f63 hc937
     exact id (op_fieldAddr (s := 1) Try.underlying54 rfl rfl Try.sizeOf51 e940 (kN0 (i := 5) hM (by decide) (by exact jD) (by exact fun _ => ⟨_, _, rfl, p941⟩)))
    ·rintro D ρo wo nD eD cD jD aD ⟨f64, f60, _⟩
     refine go_lz 60 rfl ((gA_f f60).trans hg860.symm) ?_ (fun hc942 => (kN0 (i := 6) hM (by decide) (by exact jD) (by exact (gf hc942).symm)))
     intro hc942
     have hst := jD.2 
     replace hst : St w0 wo [] := hst
     obtain ⟨a943, o944, e945, p946⟩ := f64 hc942
     exact id (op_loadN (cs := [(iV (((gd l q).S).T)), (iV (((gd l q).S).V))]) Try.isAgg51 Try.sizeOf51 e945 (Pt.of (p946.below hst.below) rfl) rfl (kN0 (i := 6) hM (by decide) (by exact jD) (by exact (gt hc942).symm)))
    ·rintro D ρo wo nD eD cD jD aD ⟨f1, f60, _⟩
     refine go_lz 60 rfl ((gA_f f60).trans hg860.symm) ?_ (fun hc947 => (kN0 (i := 7) hM (by decide) (by exact jD) (by exact (gf hc947).symm)))
     intro hc947
     exact id (op_move v_h (f1.trans q853_1) (kN0 (i := 7) hM (by decide) (by exact jD) (by exact (gt hc947).symm)))
    ·rintro D ρo wo nD eD cD jD aD ⟨f10, f60, _⟩
     refine go_lz 60 rfl ((gA_f f60).trans hg860.symm) ?_ (fun hc948 => (kN0 (i := 8) hM (by decide) (by exact jD) (by exact (gf hc948).symm)))
     intro hc948
     exact id (op_move (iV (j : Int)) (f10.trans q853_10) (kN0 (i := 8) hM (by decide) (by exact jD) (by exact (gt hc948).symm)))
    ·rintro D ρo wo nD eD cD jD aD ⟨f66, f67, f60, _⟩
     refine go_lz 60 rfl ((gA_f f60).trans hg860.symm) ?_ (fun hc949 => (kN0 (i := 9) hM (by decide) (by exact jD) (by exact fun h => absurd (show _ = true from h) (by rw [hc949]; decide))))
     intro hc949
     have c950 : ((!(gd l q).Safe) || decide ((gd l q).S ∈ h.take j)) = false := (not_t (hg860.symm.trans hc949))
     refine id (op_indexAddrD (E := sampE) (xs := h) j Try.underlying23 Try.sizeOf51 (f66.trans (gt hc949)) h_h (f67.trans (gt hc949)) (by omega) (by omega) (fun a951 o952 p953 => ?_))
     exact (kN0 (i := 9) hM (by decide) (by exact jD) (by exact fun _ => ⟨_, _, rfl, p953⟩))
    ·rintro D ρo wo nD eD cD jD aD ⟨f68, f60, _⟩
     refine go_lz 60 rfl ((gA_f f60).trans hg860.symm) ?_ (fun hc954 => (kN0 (i := 10) hM (by decide) (by exact jD) (by exact (gf hc954).symm)))
     intro hc954
     have hst := jD.2 
     replace hst : St w0 wo [] := hst
     obtain ⟨a955, o956, e957, p958⟩ := f68 hc954
     exact id (op_loadN (cs := [(iV ((gd h j).T)), (iV ((gd h j).V))]) Try.isAgg51 Try.sizeOf51 e957 (Pt.of (p958.below hst.below) rfl) rfl (kN0 (i := 10) hM (by decide) (by exact jD) (by exact (gt hc954).symm)))
    ·rintro D ρo wo nD eD cD jD aD ⟨f65, f69, f60, _⟩
     refine go_lz 60 rfl ((gA_f f60).trans hg860.symm) ?_ (fun hc959 => (kN0 (i := 11) hM (by decide) (by exact jD) (by exact (gf hc959).symm)))
     intro hc959
     exact id (op_eqlG Try.eqGuardType51 (Try.eqSample ((gd l q).S) (gd h j) _) (f65.trans (gt hc959)) (f69.trans (gt hc959)) (kN0 (i := 11) hM (by decide) (by exact jD) (by exact (gt hc959).symm)))
    ·rintro D ρo wo nD eD cD jD aD ⟨f60, f70, _⟩
     refine go_plain (op_pick_or f60 rfl f70 (fun hp => (hg860.trans (congrArg (! ·) hp))) ?_)
     exact (kN0 (i := 12) hM (by decide) (by exact jD) (by exact (congrArg Value.bool hg928.symm)))
    ·rintro D ρo wo nD eD cD jD aD ⟨f71, _⟩
     exact go_plain (op_assign (.bool g927) f71 (kN0 (i := 13) hM (by decide) (by exact jD) (by exact rfl)))
    intro ρ960 w961 Dw961 hallw961 hJw961 hRw961 hkw961
    have hst : St w0 w961 [] := hJw961.2 
    have uw961_0 : ρ960 0 = v_l := (hkw961 0 rfl).trans q853_0
    have uw961_1 : ρ960 1 = v_h := (hkw961 1 rfl).trans q853_1
    have uw961_5 : ρ960 5 = (iV (i : Int)) := (hkw961 5 rfl).trans q853_5
    have uw961_8 : ρ960 8 = (iV (q : Int)) := (hkw961 8 rfl).trans q853_8
    have uw961_10 : ρ960 10 = (iV (j : Int)) := (hkw961 10 rfl).trans q853_10
    have uw961_53 : ρ960 53 = (iV (j : Int)) := (hkw961 53 rfl).trans rfl
    have uw961_54 : ρ960 54 = v_h := (hkw961 54 rfl).trans rfl
    have uw961_55 : ρ960 55 = (iV (h.length : Int)) := (hkw961 55 rfl).trans rfl
    have uw961_56 : ρ960 56 = (.bool (decide ((j : Int) < (h.length : Int)))) := (hkw961 56 rfl).trans rfl
    have uw961_9 : ρ960 9 = (.bool g927) := hRw961 13 9 rfl
    refine block_n (then_n (cE_region rfl (s_cons (op_move (iV (j : Int)) uw961_10 (s_cons (op_add (k := .i64) (a := (j : Int)) (b := 1) ((j : Int) + 1) rfl rfl (xi64 (by omega) (by omega)) (s_cons (op_assign (iV ((j : Int) + 1)) rfl (s_nil (then_n ?_))))))))))
    exact ⟨_, ⟨(j + 1), rfl, uw961_0, uw961_1, uw961_5, uw961_8, (uw961_9.trans (congrArg Value.bool (show g927 = _ from by first | rfl | exact (need_nil _ _).symm | (rw [hg928]; exact there_snoc (by omega) _ _)))), (congrArg iV (show ((j : Int) + 1) = _ from by omega)), hst, (by omega)⟩, (by simp only [id]; omega)⟩
   have c962 : ¬ ((j : Int) < (h.length : Int)) := of_decide_eq_false b857
   refine cE_cond false (congrArg Value.bool b857) (fun h => by cases h) (fun _ => ?_)
   refine cE_exit (then_x (then_x (block_hit (then_n (cE_seq (cE_region rfl (s_cons (op_move (.bool ((!(gd l q).Safe) || decide ((gd l q).S ∈ h.take j))) q853_9 (s_cons (op_not (b := ((!(gd l q).Safe) || decide ((gd l q).S ∈ h.take j))) rfl (s_nil (then_n ?_))))))))))))
   rcases Bool.eq_false_or_eq_true ((!(gd l q).Safe) || decide ((gd l q).S ∈ h.take j)) with b963 | b963
   ·refine cE_cond false (congrArg Value.bool (congrArg (! ·) b963)) (fun h => by cases h) (fun _ => ?_)
    refine cE_skip (block_n (then_n (cE_region rfl (s_cons (op_move (iV (q : Int)) q853_8 (s_cons (op_add (k := .i64) (a := (q : Int)) (b := 1) ((q : Int) + 1) rfl rfl (xi64 (by omega) (by omega)) (s_cons (op_assign (iV ((q : Int) + 1)) rfl (s_nil (then_n ?_)))))))))))
    exact ⟨_, ⟨(q + 1), rfl, q853_0, q853_1, q853_5, (congrArg iV (show ((q : Int) + 1) = _ from by omega)), hst, (by omega), (by first | rfl | exact need_stepR (h := h) (i := j) (by omega) hQ (by assumption) (by omega))⟩, (by simp only [id]; omega)⟩
   refine cE_cond true (congrArg Value.bool (congrArg (! ·) b963)) (fun _ => ?_) (fun h => by cases h)
   refine cE_seq (cE_region rfl (s_cons (op_assign (iV 3) rfl (s_nil (then_n (cE_ret (block_r (then_r (then_r (block_r (then_r (post_r _ (res1 (v := (iV 3)) rfl) ?_))))))))))))
   exact ⟨(retv1 (congrArg iV (show 3 = (contentC l h) from by first | exact (content_1 (by assumption)).symm | exact (content_2R (k := k) (by assumption) (i := i) (by omega) (by assumption) (by omega)).symm | exact (content_3R (by assumption) hNA (k := q) (i := j) (by omega) (by assumption) (by omega)).symm | exact (content_0R (by assumption) hNA hQ (by omega)).symm))), hst.bare⟩
  have c964 : ¬ ((q : Int) < (l.length : Int)) := of_decide_eq_false b848
  refine cE_cond false (congrArg Value.bool b848) (fun h => by cases h) (fun _ => ?_)
  refine cE_exit (then_x (then_x (block_hit (then_n (cE_seq (cE_region rfl (s_cons (op_assign (iV 0) rfl (s_nil (then_n (cE_ret (post_r _ (res1 (v := (iV 0)) rfl) ?_))))))))))))
  exact ⟨(retv1 (congrArg iV (show 0 = (contentC l h) from by first | exact (content_1 (by assumption)).symm | exact (content_2R (k := k) (by assumption) (i := i) (by omega) (by assumption) (by omega)).symm | exact (content_3R (by assumption) hNA (k := q) (i := j) (by omega) (by assumption) (by omega)).symm | exact (content_0R (by assumption) hNA hQ (by omega)).symm))), hst.bare⟩
 refine cE_cond true (congrArg Value.bool (congrArg (! ·) b727)) (fun _ => ?_) (fun h => by cases h)
 refine cE_seq (cE_region rfl (s_cons (op_assign (iV 1) rfl (s_nil (then_n (cE_ret (then_r (post_r _ (res1 (v := (iV 1)) rfl) ?_))))))))
 exact ⟨(retv1 (congrArg iV (show 1 = (contentC l h) from by first | exact (content_1 (by assumption)).symm | exact (content_2R (k := k) (by assumption) (i := i) (by omega) (by assumption) (by omega)).symm | exact (content_3R (by assumption) hNA (k := q) (i := j) (by omega) (by assumption) (by omega)).symm | exact (content_0R (by assumption) hNA hQ (by omega)).symm))), hst.bare⟩

end Go.Proofs.Ytldfnkhccaglmaa
