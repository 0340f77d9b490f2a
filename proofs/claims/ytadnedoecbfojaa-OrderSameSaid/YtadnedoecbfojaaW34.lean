/- twinkeepref17.covered -/
import Derived.Test.YtadnedoecbfojaaOP
import Derived.Test.YtadnedoecbfojaaT
import Derived.Test.YtadnedoecbfojaaJ
import Derived.Test.YtadnedoecbfojaaK
namespace Go.Proofs.Ytadnedoecbfojaa
open Go.RowKit

set_option maxHeartbeats 4000000 in
theorem c_rcovered (w0 : World) (v_l : Value) (l : List Info) (h_l : Sl w0 infoE v_l l) (x : Info) (hx : x.ok) (hl : ∀ y ∈ l, y.ok) :
    Calls Try.prog 21 #[v_l, (.agg #[(.int .i64 x.Id), (.int .i64 x.Tier), (.int .i64 x.From), (.int .i64 x.To), (.int .u32 x.Sum)])] w0 fun e w' => e = .returned (.bool (upI l x)) ∧ St w0 w' [] := by
  refine calls_E (n := 51) (ts := [4]) Try.func21 rfl rfl rfl (by simp) ?_
  have hst := St.start w0
  refine cE_seq ?_
  refine cE_region rfl ?_
  refine s_cons (op_box (v := (.agg #[(.int .i64 x.Id), (.int .i64 x.Tier), (.int .i64 x.From), (.int .i64 x.To), (.int .u32 x.Sum)])) (cs := #[(.int .i64 x.Id), (.int .i64 x.Tier), (.int .i64 x.From), (.int .i64 x.To), (.int .u32 x.Sum)]) hst rfl rfl (fun g1 w2 hst _ => ?_))
  replace hst : St w0 w2 [.blk g1 34 #[(.int .i64 x.Id), (.int .i64 x.Tier), (.int .i64 x.From), (.int .i64 x.To), (.int .u32 x.Sum)]] := hst
  refine s_cons (op_assign (.bool false) rfl ?_)
  refine s_nil ?_
  refine then_n ?_
  refine cE_seq ?_
  refine cE_seq ?_
  refine cE_region rfl ?_
  refine s_cons (op_assign (.int .i64 0) rfl ?_)
  refine s_nil ?_
  refine then_n ?_
  refine cE_block ?_
  refine cE_loop (fun (m : Nat) (ρ : Env) (w : World) => ∃ (i : Nat), m = l.length - i ∧ ρ 0 = v_l ∧ ρ 1 = (.agg #[(.int .i64 x.Id), (.int .i64 x.Tier), (.int .i64 x.From), (.int .i64 x.To), (.int .u32 x.Sum)]) ∧ ρ 3 = (.pointer (some ⟨g1, 0, none⟩)) ∧ ρ 5 = (.int .i64 (i : Int)) ∧ St w0 w [.blk g1 34 #[(.int .i64 x.Id), (.int .i64 x.Tier), (.int .i64 x.From), (.int .i64 x.To), (.int .u32 x.Sum)]] ∧ (i ≤ l.length) ∧ (upI l x = upI (l.drop i) x)) id _ ⟨0, rfl, rfl, rfl, rfl, (congrArg (Value.int .i64) (show 0 = _ from by omega)), hst, (by omega), (by first | rfl | exact hI.trans (cov_go (by omega) (hl _ (List.getElem_mem _)) hx (by omega)))⟩ ?_
  rintro m4 ρ5 w6 ⟨i, hm4, q3_0, q3_1, q3_3, q3_5, hst, hi, hI⟩
  have hlen := h_l.len
  refine cE_seq ?_
  refine cE_seq ?_
  refine cE_region rfl ?_
  refine s_cons (op_move (.int .i64 (i : Int)) q3_5 ?_)
  refine s_cons (op_move v_l q3_0 ?_)
  refine s_cons (op_len (E := infoE) (xs := l) Try.underlying22 rfl h_l ?_)
  refine s_cons (op_lss (k := .i64) (a := (i : Int)) (b := (l.length : Int)) rfl rfl ?_)
  refine s_nil ?_
  refine then_n ?_
  rcases Bool.eq_false_or_eq_true (decide ((i : Int) < (l.length : Int))) with b7 | b7
  · have c8 : (i : Int) < (l.length : Int) := of_decide_eq_true b7
    refine cE_cond true (congrArg Value.bool b7) (fun _ => ?_) (fun h => by cases h)
    refine cE_skip ?_
    refine then_n ?_
    refine cE_seq ?_
    refine cE_block ?_
    refine cE_seq ?_
    rcases Bool.eq_false_or_eq_true (decide (x.Tier < ((l[i]'(by omega)).Tier))) with b12 | b12
    · have c13 : x.Tier < ((l[i]'(by omega)).Tier) := of_decide_eq_true b12
      rcases Bool.eq_false_or_eq_true (decide ((IntKind.i64.wrap ((l[i]'(by omega)).Tier - x.Tier)) = 1)) with b20 | b20
      · have c21 : (IntKind.i64.wrap ((l[i]'(by omega)).Tier - x.Tier)) = 1 := of_decide_eq_true b20
        rcases Bool.eq_false_or_eq_true (decide (((l[i]'(by omega)).From) = x.From)) with b31 | b31
        · have c32 : ((l[i]'(by omega)).From) = x.From := of_decide_eq_true b31
          refine cE_regionL hst [[(0, none)], [(5, none)], [(12, some 0), (13, some 1)], [(14, some 2)], [(15, some 3)], [(3, none)], [(17, some 5)], [(16, some 4), (18, some 6)], [(19, some 7)], [(0, none), (20, some 8)], [(5, none), (20, some 8)], [(21, some 9), (22, some 10), (20, some 8)], [(23, some 11), (20, some 8)], [(24, some 12), (20, some 8)], [(3, none), (20, some 8)], [(26, some 14), (20, some 8)], [(25, some 13), (27, some 15), (20, some 8)], [(28, some 16), (20, some 8)], [(20, some 8), (29, some 17)], [(30, some 18)], [(0, none), (31, some 19)], [(5, none), (31, some 19)], [(32, some 20), (33, some 21), (31, some 19)], [(34, some 22), (31, some 19)], [(35, some 23), (31, some 19)], [(3, none), (31, some 19)], [(37, some 25), (31, some 19)], [(36, some 24), (38, some 26), (31, some 19)], [(31, some 19), (39, some 27)], [(40, some 28)], [(0, none), (41, some 29)], [(5, none), (41, some 29)], [(42, some 30), (43, some 31), (41, some 29)], [(44, some 32), (41, some 29)], [(45, some 33), (41, some 29)], [(3, none), (41, some 29)], [(47, some 35), (41, some 29)], [(46, some 34), (48, some 36), (41, some 29)], [(41, some 29), (49, some 37)]] [(rEq v_l), (rEq (.int .i64 (i : Int))), (rPt [(.int .i64 ((l[i]'(by omega)).Id)), (.int .i64 ((l[i]'(by omega)).Tier)), (.int .i64 ((l[i]'(by omega)).From)), (.int .i64 ((l[i]'(by omega)).To)), (.int .u32 ((l[i]'(by omega)).Sum))]), (rPt [(.int .i64 ((l[i]'(by omega)).Tier)), (.int .i64 ((l[i]'(by omega)).From)), (.int .i64 ((l[i]'(by omega)).To)), (.int .u32 ((l[i]'(by omega)).Sum))]), (rEq (.int .i64 ((l[i]'(by omega)).Tier))), (rEq (.pointer (some ⟨g1, (0 + 1), none⟩))), (rEq (.int .i64 x.Tier)), (rEq (.bool (decide (x.Tier < ((l[i]'(by omega)).Tier))))), (rEq (.bool (decide (x.Tier < ((l[i]'(by omega)).Tier))))), (rEq v_l), (rEq (.int .i64 (i : Int))), (rPt [(.int .i64 ((l[i]'(by omega)).Id)), (.int .i64 ((l[i]'(by omega)).Tier)), (.int .i64 ((l[i]'(by omega)).From)), (.int .i64 ((l[i]'(by omega)).To)), (.int .u32 ((l[i]'(by omega)).Sum))]), (rPt [(.int .i64 ((l[i]'(by omega)).Tier)), (.int .i64 ((l[i]'(by omega)).From)), (.int .i64 ((l[i]'(by omega)).To)), (.int .u32 ((l[i]'(by omega)).Sum))]), (rEq (.int .i64 ((l[i]'(by omega)).Tier))), (rEq (.pointer (some ⟨g1, (0 + 1), none⟩))), (rEq (.int .i64 x.Tier)), (rEq (.int .i64 (IntKind.i64.wrap ((l[i]'(by omega)).Tier - x.Tier)))), (rEq (.bool (decide ((IntKind.i64.wrap ((l[i]'(by omega)).Tier - x.Tier)) = 1)))), (rEq (.bool (decide ((IntKind.i64.wrap ((l[i]'(by omega)).Tier - x.Tier)) = 1)))), (rEq (.bool (decide ((IntKind.i64.wrap ((l[i]'(by omega)).Tier - x.Tier)) = 1)))), (rEq v_l), (rEq (.int .i64 (i : Int))), (rPt [(.int .i64 ((l[i]'(by omega)).Id)), (.int .i64 ((l[i]'(by omega)).Tier)), (.int .i64 ((l[i]'(by omega)).From)), (.int .i64 ((l[i]'(by omega)).To)), (.int .u32 ((l[i]'(by omega)).Sum))]), (rPt [(.int .i64 ((l[i]'(by omega)).From)), (.int .i64 ((l[i]'(by omega)).To)), (.int .u32 ((l[i]'(by omega)).Sum))]), (rEq (.int .i64 ((l[i]'(by omega)).From))), (rEq (.pointer (some ⟨g1, (0 + 2), none⟩))), (rEq (.int .i64 x.From)), (rEq (.bool (decide (((l[i]'(by omega)).From) = x.From)))), (rEq (.bool (decide (((l[i]'(by omega)).From) = x.From)))), (rEq (.bool (decide (((l[i]'(by omega)).From) = x.From)))), (rEq v_l), (rEq (.int .i64 (i : Int))), (rPt [(.int .i64 ((l[i]'(by omega)).Id)), (.int .i64 ((l[i]'(by omega)).Tier)), (.int .i64 ((l[i]'(by omega)).From)), (.int .i64 ((l[i]'(by omega)).To)), (.int .u32 ((l[i]'(by omega)).Sum))]), (rPt [(.int .i64 ((l[i]'(by omega)).To)), (.int .u32 ((l[i]'(by omega)).Sum))]), (rEq (.int .i64 ((l[i]'(by omega)).To))), (rEq (.pointer (some ⟨g1, (0 + 3), none⟩))), (rEq (.int .i64 x.To)), (rEq (.bool (decide (((l[i]'(by omega)).To) = x.To)))), (rEq (.bool (decide (((l[i]'(by omega)).To) = x.To))))] (by kernel_rfl) rfl (by kernel_rfl) ⟨sEq, sEq, sPt, sPt, sEq, sEq, sEq, sEq, sEq, sEq, sEq, sPt, sPt, sEq, sEq, sEq, sEq, sEq, sEq, sEq, sEq, sEq, sPt, sPt, sEq, sEq, sEq, sEq, sEq, sEq, sEq, sEq, sPt, sPt, sEq, sEq, sEq, sEq, sEq, trivial⟩ ⟨?_, ?_, ?_, ?_, ?_, ?_, ?_, ?_, ?_, ?_, ?_, ?_, ?_, ?_, ?_, ?_, ?_, ?_, ?_, ?_, ?_, ?_, ?_, ?_, ?_, ?_, ?_, ?_, ?_, ?_, ?_, ?_, ?_, ?_, ?_, ?_, ?_, ?_, ?_, trivial⟩ ?_
          · rintro ρ45 w46 hj47 ⟨f0, _⟩
            have hst := hj47.2
            exact go_plain (op_move v_l (f0.trans q3_0) (kS hj47 rfl))
          · rintro ρ48 w49 hj50 ⟨f5, _⟩
            have hst := hj50.2
            exact go_plain (op_move (.int .i64 (i : Int)) (f5.trans q3_5) (kS hj50 rfl))
          · rintro ρ51 w52 hj53 ⟨f12, f13, _⟩
            have hst := hj53.2
            refine go_plain (op_indexAddrN (E := infoE) (xs := l) i Try.underlying22 Try.sizeOf34 f12 h_l f13 (by omega) (by omega) (fun a54 o55 p56 => ?_))
            exact kS hj53 ⟨_, _, rfl, (p56.below hst.below)⟩
          · rintro ρ57 w58 hj59 ⟨f14, _⟩
            have hst := hj59.2
            obtain ⟨a60, o61, e62, p63⟩ := f14
            exact go_plain (op_fieldAddr (s := 0) Try.underlying34 rfl rfl Try.sizeOf3 e62 (kS hj59 ⟨_, _, rfl, (p63.drop 1)⟩))
          · rintro ρ64 w65 hj66 ⟨f15, _⟩
            have hst := hj66.2
            obtain ⟨a67, o68, e69, p70⟩ := f15
            exact go_plain (op_load1 (u := (.int .i64 ((l[i]'(by omega)).Tier))) Try.isAgg3 e69 p70 (kS hj66 rfl))
          · rintro ρ71 w72 hj73 ⟨f3, _⟩
            have hst := hj73.2
            exact go_plain (op_fieldAddr (s := 0) Try.underlying34 rfl rfl Try.sizeOf3 (f3.trans q3_3) (kS hj73 rfl))
          · rintro ρ74 w75 hj76 ⟨f17, _⟩
            have hst := hj76.2
            exact go_plain (op_load1 (u := (.int .i64 x.Tier)) Try.isAgg3 f17 ((hst.cell 0 rfl).drop 1) (kS hj76 rfl))
          · rintro ρ77 w78 hj79 ⟨f16, f18, _⟩
            have hst := hj79.2
            exact go_plain (op_gtr (k := .i64) (a := (l[i]'(by omega)).Tier) (b := x.Tier) f16 f18 (kS hj79 rfl))
          · rintro ρ80 w81 hj82 ⟨f19, _⟩
            have hst := hj82.2
            exact go_plain (op_move (.bool (decide (x.Tier < ((l[i]'(by omega)).Tier)))) f19 (kS hj82 rfl))
          · rintro ρ83 w84 hj85 ⟨f0, f20, _⟩
            have hst := hj85.2
            exact go_yes 20 rfl (f20.trans (congrArg Value.bool b12)) (op_move v_l (f0.trans q3_0) (kS hj85 rfl))
          · rintro ρ86 w87 hj88 ⟨f5, f20, _⟩
            have hst := hj88.2
            exact go_yes 20 rfl (f20.trans (congrArg Value.bool b12)) (op_move (.int .i64 (i : Int)) (f5.trans q3_5) (kS hj88 rfl))
          · rintro ρ89 w90 hj91 ⟨f21, f22, f20, _⟩
            have hst := hj91.2
            refine go_yes 20 rfl (f20.trans (congrArg Value.bool b12)) (op_indexAddrN (E := infoE) (xs := l) i Try.underlying22 Try.sizeOf34 f21 h_l f22 (by omega) (by omega) (fun a92 o93 p94 => ?_))
            exact kS hj91 ⟨_, _, rfl, (p94.below hst.below)⟩
          · rintro ρ95 w96 hj97 ⟨f23, f20, _⟩
            have hst := hj97.2
            obtain ⟨a98, o99, e100, p101⟩ := f23
            exact go_yes 20 rfl (f20.trans (congrArg Value.bool b12)) (op_fieldAddr (s := 0) Try.underlying34 rfl rfl Try.sizeOf3 e100 (kS hj97 ⟨_, _, rfl, (p101.drop 1)⟩))
          · rintro ρ102 w103 hj104 ⟨f24, f20, _⟩
            have hst := hj104.2
            obtain ⟨a105, o106, e107, p108⟩ := f24
            exact go_yes 20 rfl (f20.trans (congrArg Value.bool b12)) (op_load1 (u := (.int .i64 ((l[i]'(by omega)).Tier))) Try.isAgg3 e107 p108 (kS hj104 rfl))
          · rintro ρ109 w110 hj111 ⟨f3, f20, _⟩
            have hst := hj111.2
            exact go_yes 20 rfl (f20.trans (congrArg Value.bool b12)) (op_fieldAddr (s := 0) Try.underlying34 rfl rfl Try.sizeOf3 (f3.trans q3_3) (kS hj111 rfl))
          · rintro ρ112 w113 hj114 ⟨f26, f20, _⟩
            have hst := hj114.2
            exact go_yes 20 rfl (f20.trans (congrArg Value.bool b12)) (op_load1 (u := (.int .i64 x.Tier)) Try.isAgg3 f26 ((hst.cell 0 rfl).drop 1) (kS hj114 rfl))
          · rintro ρ115 w116 hj117 ⟨f25, f27, f20, _⟩
            have hst := hj117.2
            exact go_yes 20 rfl (f20.trans (congrArg Value.bool b12)) (op_sub (k := .i64) (a := (l[i]'(by omega)).Tier) (b := x.Tier) (IntKind.i64.wrap ((l[i]'(by omega)).Tier - x.Tier)) f25 f27 rfl (kS hj117 rfl))
          · rintro ρ118 w119 hj120 ⟨f28, f20, _⟩
            have hst := hj120.2
            exact go_yes 20 rfl (f20.trans (congrArg Value.bool b12)) (op_eql (k := .i64) (a := (IntKind.i64.wrap ((l[i]'(by omega)).Tier - x.Tier))) (b := 1) f28 rfl (kS hj120 rfl))
          · rintro ρ121 w122 hj123 ⟨f20, f29, _⟩
            have hst := hj123.2
            exact go_plain (op_pick_t (.bool (decide ((IntKind.i64.wrap ((l[i]'(by omega)).Tier - x.Tier)) = 1))) (f20.trans (congrArg Value.bool b12)) f29 (kS hj123 rfl))
          · rintro ρ124 w125 hj126 ⟨f30, _⟩
            have hst := hj126.2
            exact go_plain (op_move (.bool (decide ((IntKind.i64.wrap ((l[i]'(by omega)).Tier - x.Tier)) = 1))) f30 (kS hj126 rfl))
          · rintro ρ127 w128 hj129 ⟨f0, f31, _⟩
            have hst := hj129.2
            exact go_yes 31 rfl (f31.trans (congrArg Value.bool b20)) (op_move v_l (f0.trans q3_0) (kS hj129 rfl))
          · rintro ρ130 w131 hj132 ⟨f5, f31, _⟩
            have hst := hj132.2
            exact go_yes 31 rfl (f31.trans (congrArg Value.bool b20)) (op_move (.int .i64 (i : Int)) (f5.trans q3_5) (kS hj132 rfl))
          · rintro ρ133 w134 hj135 ⟨f32, f33, f31, _⟩
            have hst := hj135.2
            refine go_yes 31 rfl (f31.trans (congrArg Value.bool b20)) (op_indexAddrN (E := infoE) (xs := l) i Try.underlying22 Try.sizeOf34 f32 h_l f33 (by omega) (by omega) (fun a136 o137 p138 => ?_))
            exact kS hj135 ⟨_, _, rfl, (p138.below hst.below)⟩
          · rintro ρ139 w140 hj141 ⟨f34, f31, _⟩
            have hst := hj141.2
            obtain ⟨a142, o143, e144, p145⟩ := f34
            exact go_yes 31 rfl (f31.trans (congrArg Value.bool b20)) (op_fieldAddr (s := 0) Try.underlying34 rfl rfl Try.sizeOf2 e144 (kS hj141 ⟨_, _, rfl, (p145.drop 2)⟩))
          · rintro ρ146 w147 hj148 ⟨f35, f31, _⟩
            have hst := hj148.2
            obtain ⟨a149, o150, e151, p152⟩ := f35
            exact go_yes 31 rfl (f31.trans (congrArg Value.bool b20)) (op_load1 (u := (.int .i64 ((l[i]'(by omega)).From))) Try.isAgg2 e151 p152 (kS hj148 rfl))
          · rintro ρ153 w154 hj155 ⟨f3, f31, _⟩
            have hst := hj155.2
            exact go_yes 31 rfl (f31.trans (congrArg Value.bool b20)) (op_fieldAddr (s := 0) Try.underlying34 rfl rfl Try.sizeOf2 (f3.trans q3_3) (kS hj155 rfl))
          · rintro ρ156 w157 hj158 ⟨f37, f31, _⟩
            have hst := hj158.2
            exact go_yes 31 rfl (f31.trans (congrArg Value.bool b20)) (op_load1 (u := (.int .i64 x.From)) Try.isAgg2 f37 ((hst.cell 0 rfl).drop 2) (kS hj158 rfl))
          · rintro ρ159 w160 hj161 ⟨f36, f38, f31, _⟩
            have hst := hj161.2
            exact go_yes 31 rfl (f31.trans (congrArg Value.bool b20)) (op_eql (k := .i64) (a := (l[i]'(by omega)).From) (b := x.From) f36 f38 (kS hj161 rfl))
          · rintro ρ162 w163 hj164 ⟨f31, f39, _⟩
            have hst := hj164.2
            exact go_plain (op_pick_t (.bool (decide (((l[i]'(by omega)).From) = x.From))) (f31.trans (congrArg Value.bool b20)) f39 (kS hj164 rfl))
          · rintro ρ165 w166 hj167 ⟨f40, _⟩
            have hst := hj167.2
            exact go_plain (op_move (.bool (decide (((l[i]'(by omega)).From) = x.From))) f40 (kS hj167 rfl))
          · rintro ρ168 w169 hj170 ⟨f0, f41, _⟩
            have hst := hj170.2
            exact go_yes 41 rfl (f41.trans (congrArg Value.bool b31)) (op_move v_l (f0.trans q3_0) (kS hj170 rfl))
          · rintro ρ171 w172 hj173 ⟨f5, f41, _⟩
            have hst := hj173.2
            exact go_yes 41 rfl (f41.trans (congrArg Value.bool b31)) (op_move (.int .i64 (i : Int)) (f5.trans q3_5) (kS hj173 rfl))
          · rintro ρ174 w175 hj176 ⟨f42, f43, f41, _⟩
            have hst := hj176.2
            refine go_yes 41 rfl (f41.trans (congrArg Value.bool b31)) (op_indexAddrN (E := infoE) (xs := l) i Try.underlying22 Try.sizeOf34 f42 h_l f43 (by omega) (by omega) (fun a177 o178 p179 => ?_))
            exact kS hj176 ⟨_, _, rfl, (p179.below hst.below)⟩
          · rintro ρ180 w181 hj182 ⟨f44, f41, _⟩
            have hst := hj182.2
            obtain ⟨a183, o184, e185, p186⟩ := f44
            exact go_yes 41 rfl (f41.trans (congrArg Value.bool b31)) (op_fieldAddr (s := 0) Try.underlying34 rfl rfl Try.sizeOf2 e185 (kS hj182 ⟨_, _, rfl, (p186.drop 3)⟩))
          · rintro ρ187 w188 hj189 ⟨f45, f41, _⟩
            have hst := hj189.2
            obtain ⟨a190, o191, e192, p193⟩ := f45
            exact go_yes 41 rfl (f41.trans (congrArg Value.bool b31)) (op_load1 (u := (.int .i64 ((l[i]'(by omega)).To))) Try.isAgg2 e192 p193 (kS hj189 rfl))
          · rintro ρ194 w195 hj196 ⟨f3, f41, _⟩
            have hst := hj196.2
            exact go_yes 41 rfl (f41.trans (congrArg Value.bool b31)) (op_fieldAddr (s := 0) Try.underlying34 rfl rfl Try.sizeOf2 (f3.trans q3_3) (kS hj196 rfl))
          · rintro ρ197 w198 hj199 ⟨f47, f41, _⟩
            have hst := hj199.2
            exact go_yes 41 rfl (f41.trans (congrArg Value.bool b31)) (op_load1 (u := (.int .i64 x.To)) Try.isAgg2 f47 ((hst.cell 0 rfl).drop 3) (kS hj199 rfl))
          · rintro ρ200 w201 hj202 ⟨f46, f48, f41, _⟩
            have hst := hj202.2
            exact go_yes 41 rfl (f41.trans (congrArg Value.bool b31)) (op_eql (k := .i64) (a := (l[i]'(by omega)).To) (b := x.To) f46 f48 (kS hj202 rfl))
          · rintro ρ203 w204 hj205 ⟨f41, f49, _⟩
            have hst := hj205.2
            exact go_plain (op_pick_t (.bool (decide (((l[i]'(by omega)).To) = x.To))) (f41.trans (congrArg Value.bool b31)) f49 (kS hj205 rfl))
          intro ρ206 w207 hbw207 hst hRw207 hkw207
          have uw207_0 : ρ206 0 = v_l := (hkw207 0 rfl).trans q3_0
          have uw207_1 : ρ206 1 = (.agg #[(.int .i64 x.Id), (.int .i64 x.Tier), (.int .i64 x.From), (.int .i64 x.To), (.int .u32 x.Sum)]) := (hkw207 1 rfl).trans q3_1
          have uw207_3 : ρ206 3 = (.pointer (some ⟨g1, 0, none⟩)) := (hkw207 3 rfl).trans q3_3
          have uw207_5 : ρ206 5 = (.int .i64 (i : Int)) := (hkw207 5 rfl).trans q3_5
          have uw207_6 : ρ206 6 = (.int .i64 (i : Int)) := (hkw207 6 rfl).trans rfl
          have uw207_7 : ρ206 7 = v_l := (hkw207 7 rfl).trans rfl
          have uw207_8 : ρ206 8 = (.int .i64 (l.length : Int)) := (hkw207 8 rfl).trans rfl
          have uw207_9 : ρ206 9 = (.bool (decide ((i : Int) < (l.length : Int)))) := (hkw207 9 rfl).trans rfl
          have uw207_50 : ρ206 50 = (.bool (decide (((l[i]'(by omega)).To) = x.To))) := hRw207 38 50 rfl
          refine then_n ?_
          rcases Bool.eq_false_or_eq_true (decide (((l[i]'(by omega)).To) = x.To)) with b208 | b208
          · have c209 : ((l[i]'(by omega)).To) = x.To := of_decide_eq_true b208
            refine cE_cond true (uw207_50.trans (congrArg Value.bool b208)) (fun _ => ?_) (fun h => by cases h)
            refine cE_seq ?_
            refine cE_region rfl ?_
            refine s_cons (op_assign (.bool true) rfl ?_)
            refine s_nil ?_
            refine then_n ?_
            refine cE_ret ?_
            refine block_r (then_r (then_r (block_r (then_r ?_))))
            refine post_r _ (res1 (v := (.bool true)) rfl) ?_
            exact ⟨(retv1 (congrArg Value.bool (show true = (upI l x) from by first | exact (hI.trans (cov_at (by omega) (hl _ (List.getElem_mem _)) hx (by omega))).symm | exact (hI.trans (cov_end (by omega))).symm))), hst.bare⟩
          have c210 : ¬ (((l[i]'(by omega)).To) = x.To) := of_decide_eq_false b208
          refine cE_cond false (uw207_50.trans (congrArg Value.bool b208)) (fun h => by cases h) (fun _ => ?_)
          refine cE_skip ?_
          refine block_n (then_n ?_)
          refine cE_region rfl ?_
          refine s_cons (op_move (.int .i64 (i : Int)) uw207_5 ?_)
          refine s_cons (op_add (k := .i64) (a := (i : Int)) (b := 1) ((i : Int) + 1) rfl rfl (xi64 (by omega) (by omega)) ?_)
          refine s_cons (op_assign (.int .i64 ((i : Int) + 1)) rfl ?_)
          refine s_nil ?_
          refine then_n ?_
          exact ⟨_, ⟨(i + 1), rfl, uw207_0, uw207_1, uw207_3, (congrArg (Value.int .i64) (show ((i : Int) + 1) = _ from by omega)), hst, (by omega), (by first | rfl | exact hI.trans (cov_go (by omega) (hl _ (List.getElem_mem _)) hx (by omega)))⟩, (by simp only [id]; omega)⟩
        have c211 : ¬ (((l[i]'(by omega)).From) = x.From) := of_decide_eq_false b31
        refine cE_regionL hst [[(0, none)], [(5, none)], [(12, some 0), (13, some 1)], [(14, some 2)], [(15, some 3)], [(3, none)], [(17, some 5)], [(16, some 4), (18, some 6)], [(19, some 7)], [(0, none), (20, some 8)], [(5, none), (20, some 8)], [(21, some 9), (22, some 10), (20, some 8)], [(23, some 11), (20, some 8)], [(24, some 12), (20, some 8)], [(3, none), (20, some 8)], [(26, some 14), (20, some 8)], [(25, some 13), (27, some 15), (20, some 8)], [(28, some 16), (20, some 8)], [(20, some 8), (29, some 17)], [(30, some 18)], [(0, none), (31, some 19)], [(5, none), (31, some 19)], [(32, some 20), (33, some 21), (31, some 19)], [(34, some 22), (31, some 19)], [(35, some 23), (31, some 19)], [(3, none), (31, some 19)], [(37, some 25), (31, some 19)], [(36, some 24), (38, some 26), (31, some 19)], [(31, some 19), (39, some 27)], [(40, some 28)], [(0, none), (41, some 29)], [(5, none), (41, some 29)], [(42, some 30), (43, some 31), (41, some 29)], [(44, some 32), (41, some 29)], [(45, some 33), (41, some 29)], [(3, none), (41, some 29)], [(47, some 35), (41, some 29)], [(46, some 34), (48, some 36), (41, some 29)], [(41, some 29), (49, some 37)]] [(rEq v_l), (rEq (.int .i64 (i : Int))), (rPt [(.int .i64 ((l[i]'(by omega)).Id)), (.int .i64 ((l[i]'(by omega)).Tier)), (.int .i64 ((l[i]'(by omega)).From)), (.int .i64 ((l[i]'(by omega)).To)), (.int .u32 ((l[i]'(by omega)).Sum))]), (rPt [(.int .i64 ((l[i]'(by omega)).Tier)), (.int .i64 ((l[i]'(by omega)).From)), (.int .i64 ((l[i]'(by omega)).To)), (.int .u32 ((l[i]'(by omega)).Sum))]), (rEq (.int .i64 ((l[i]'(by omega)).Tier))), (rEq (.pointer (some ⟨g1, (0 + 1), none⟩))), (rEq (.int .i64 x.Tier)), (rEq (.bool (decide (x.Tier < ((l[i]'(by omega)).Tier))))), (rEq (.bool (decide (x.Tier < ((l[i]'(by omega)).Tier))))), (rEq v_l), (rEq (.int .i64 (i : Int))), (rPt [(.int .i64 ((l[i]'(by omega)).Id)), (.int .i64 ((l[i]'(by omega)).Tier)), (.int .i64 ((l[i]'(by omega)).From)), (.int .i64 ((l[i]'(by omega)).To)), (.int .u32 ((l[i]'(by omega)).Sum))]), (rPt [(.int .i64 ((l[i]'(by omega)).Tier)), (.int .i64 ((l[i]'(by omega)).From)), (.int .i64 ((l[i]'(by omega)).To)), (.int .u32 ((l[i]'(by omega)).Sum))]), (rEq (.int .i64 ((l[i]'(by omega)).Tier))), (rEq (.pointer (some ⟨g1, (0 + 1), none⟩))), (rEq (.int .i64 x.Tier)), (rEq (.int .i64 (IntKind.i64.wrap ((l[i]'(by omega)).Tier - x.Tier)))), (rEq (.bool (decide ((IntKind.i64.wrap ((l[i]'(by omega)).Tier - x.Tier)) = 1)))), (rEq (.bool (decide ((IntKind.i64.wrap ((l[i]'(by omega)).Tier - x.Tier)) = 1)))), (rEq (.bool (decide ((IntKind.i64.wrap ((l[i]'(by omega)).Tier - x.Tier)) = 1)))), (rEq v_l), (rEq (.int .i64 (i : Int))), (rPt [(.int .i64 ((l[i]'(by omega)).Id)), (.int .i64 ((l[i]'(by omega)).Tier)), (.int .i64 ((l[i]'(by omega)).From)), (.int .i64 ((l[i]'(by omega)).To)), (.int .u32 ((l[i]'(by omega)).Sum))]), (rPt [(.int .i64 ((l[i]'(by omega)).From)), (.int .i64 ((l[i]'(by omega)).To)), (.int .u32 ((l[i]'(by omega)).Sum))]), (rEq (.int .i64 ((l[i]'(by omega)).From))), (rEq (.pointer (some ⟨g1, (0 + 2), none⟩))), (rEq (.int .i64 x.From)), (rEq (.bool (decide (((l[i]'(by omega)).From) = x.From)))), (rEq (.bool (decide (((l[i]'(by omega)).From) = x.From)))), (rEq (.bool (decide (((l[i]'(by omega)).From) = x.From)))), (rEq undef), (rEq undef), (rEq undef), (rEq undef), (rEq undef), (rEq undef), (rEq undef), (rEq undef), (rEq (.bool false))] (by kernel_rfl) rfl (by kernel_rfl) ⟨sEq, sEq, sPt, sPt, sEq, sEq, sEq, sEq, sEq, sEq, sEq, sPt, sPt, sEq, sEq, sEq, sEq, sEq, sEq, sEq, sEq, sEq, sPt, sPt, sEq, sEq, sEq, sEq, sEq, sEq, sEq, sEq, sEq, sEq, sEq, sEq, sEq, sEq, sEq, trivial⟩ ⟨?_, ?_, ?_, ?_, ?_, ?_, ?_, ?_, ?_, ?_, ?_, ?_, ?_, ?_, ?_, ?_, ?_, ?_, ?_, ?_, ?_, ?_, ?_, ?_, ?_, ?_, ?_, ?_, ?_, ?_, ?_, ?_, ?_, ?_, ?_, ?_, ?_, ?_, ?_, trivial⟩ ?_
        · rintro ρ221 w222 hj223 ⟨f0, _⟩
          have hst := hj223.2
          exact go_plain (op_move v_l (f0.trans q3_0) (kS hj223 rfl))
        · rintro ρ224 w225 hj226 ⟨f5, _⟩
          have hst := hj226.2
          exact go_plain (op_move (.int .i64 (i : Int)) (f5.trans q3_5) (kS hj226 rfl))
        · rintro ρ227 w228 hj229 ⟨f12, f13, _⟩
          have hst := hj229.2
          refine go_plain (op_indexAddrN (E := infoE) (xs := l) i Try.underlying22 Try.sizeOf34 f12 h_l f13 (by omega) (by omega) (fun a230 o231 p232 => ?_))
          exact kS hj229 ⟨_, _, rfl, (p232.below hst.below)⟩
        · rintro ρ233 w234 hj235 ⟨f14, _⟩
          have hst := hj235.2
          obtain ⟨a236, o237, e238, p239⟩ := f14
          exact go_plain (op_fieldAddr (s := 0) Try.underlying34 rfl rfl Try.sizeOf3 e238 (kS hj235 ⟨_, _, rfl, (p239.drop 1)⟩))
        · rintro ρ240 w241 hj242 ⟨f15, _⟩
          have hst := hj242.2
          obtain ⟨a243, o244, e245, p246⟩ := f15
          exact go_plain (op_load1 (u := (.int .i64 ((l[i]'(by omega)).Tier))) Try.isAgg3 e245 p246 (kS hj242 rfl))
        · rintro ρ247 w248 hj249 ⟨f3, _⟩
          have hst := hj249.2
          exact go_plain (op_fieldAddr (s := 0) Try.underlying34 rfl rfl Try.sizeOf3 (f3.trans q3_3) (kS hj249 rfl))
        · rintro ρ250 w251 hj252 ⟨f17, _⟩
          have hst := hj252.2
          exact go_plain (op_load1 (u := (.int .i64 x.Tier)) Try.isAgg3 f17 ((hst.cell 0 rfl).drop 1) (kS hj252 rfl))
        · rintro ρ253 w254 hj255 ⟨f16, f18, _⟩
          have hst := hj255.2
          exact go_plain (op_gtr (k := .i64) (a := (l[i]'(by omega)).Tier) (b := x.Tier) f16 f18 (kS hj255 rfl))
        · rintro ρ256 w257 hj258 ⟨f19, _⟩
          have hst := hj258.2
          exact go_plain (op_move (.bool (decide (x.Tier < ((l[i]'(by omega)).Tier)))) f19 (kS hj258 rfl))
        · rintro ρ259 w260 hj261 ⟨f0, f20, _⟩
          have hst := hj261.2
          exact go_yes 20 rfl (f20.trans (congrArg Value.bool b12)) (op_move v_l (f0.trans q3_0) (kS hj261 rfl))
        · rintro ρ262 w263 hj264 ⟨f5, f20, _⟩
          have hst := hj264.2
          exact go_yes 20 rfl (f20.trans (congrArg Value.bool b12)) (op_move (.int .i64 (i : Int)) (f5.trans q3_5) (kS hj264 rfl))
        · rintro ρ265 w266 hj267 ⟨f21, f22, f20, _⟩
          have hst := hj267.2
          refine go_yes 20 rfl (f20.trans (congrArg Value.bool b12)) (op_indexAddrN (E := infoE) (xs := l) i Try.underlying22 Try.sizeOf34 f21 h_l f22 (by omega) (by omega) (fun a268 o269 p270 => ?_))
          exact kS hj267 ⟨_, _, rfl, (p270.below hst.below)⟩
        · rintro ρ271 w272 hj273 ⟨f23, f20, _⟩
          have hst := hj273.2
          obtain ⟨a274, o275, e276, p277⟩ := f23
          exact go_yes 20 rfl (f20.trans (congrArg Value.bool b12)) (op_fieldAddr (s := 0) Try.underlying34 rfl rfl Try.sizeOf3 e276 (kS hj273 ⟨_, _, rfl, (p277.drop 1)⟩))
        · rintro ρ278 w279 hj280 ⟨f24, f20, _⟩
          have hst := hj280.2
          obtain ⟨a281, o282, e283, p284⟩ := f24
          exact go_yes 20 rfl (f20.trans (congrArg Value.bool b12)) (op_load1 (u := (.int .i64 ((l[i]'(by omega)).Tier))) Try.isAgg3 e283 p284 (kS hj280 rfl))
        · rintro ρ285 w286 hj287 ⟨f3, f20, _⟩
          have hst := hj287.2
          exact go_yes 20 rfl (f20.trans (congrArg Value.bool b12)) (op_fieldAddr (s := 0) Try.underlying34 rfl rfl Try.sizeOf3 (f3.trans q3_3) (kS hj287 rfl))
        · rintro ρ288 w289 hj290 ⟨f26, f20, _⟩
          have hst := hj290.2
          exact go_yes 20 rfl (f20.trans (congrArg Value.bool b12)) (op_load1 (u := (.int .i64 x.Tier)) Try.isAgg3 f26 ((hst.cell 0 rfl).drop 1) (kS hj290 rfl))
        · rintro ρ291 w292 hj293 ⟨f25, f27, f20, _⟩
          have hst := hj293.2
          exact go_yes 20 rfl (f20.trans (congrArg Value.bool b12)) (op_sub (k := .i64) (a := (l[i]'(by omega)).Tier) (b := x.Tier) (IntKind.i64.wrap ((l[i]'(by omega)).Tier - x.Tier)) f25 f27 rfl (kS hj293 rfl))
        · rintro ρ294 w295 hj296 ⟨f28, f20, _⟩
          have hst := hj296.2
          exact go_yes 20 rfl (f20.trans (congrArg Value.bool b12)) (op_eql (k := .i64) (a := (IntKind.i64.wrap ((l[i]'(by omega)).Tier - x.Tier))) (b := 1) f28 rfl (kS hj296 rfl))
        · rintro ρ297 w298 hj299 ⟨f20, f29, _⟩
          have hst := hj299.2
          exact go_plain (op_pick_t (.bool (decide ((IntKind.i64.wrap ((l[i]'(by omega)).Tier - x.Tier)) = 1))) (f20.trans (congrArg Value.bool b12)) f29 (kS hj299 rfl))
        · rintro ρ300 w301 hj302 ⟨f30, _⟩
          have hst := hj302.2
          exact go_plain (op_move (.bool (decide ((IntKind.i64.wrap ((l[i]'(by omega)).Tier - x.Tier)) = 1))) f30 (kS hj302 rfl))
        · rintro ρ303 w304 hj305 ⟨f0, f31, _⟩
          have hst := hj305.2
          exact go_yes 31 rfl (f31.trans (congrArg Value.bool b20)) (op_move v_l (f0.trans q3_0) (kS hj305 rfl))
        · rintro ρ306 w307 hj308 ⟨f5, f31, _⟩
          have hst := hj308.2
          exact go_yes 31 rfl (f31.trans (congrArg Value.bool b20)) (op_move (.int .i64 (i : Int)) (f5.trans q3_5) (kS hj308 rfl))
        · rintro ρ309 w310 hj311 ⟨f32, f33, f31, _⟩
          have hst := hj311.2
          refine go_yes 31 rfl (f31.trans (congrArg Value.bool b20)) (op_indexAddrN (E := infoE) (xs := l) i Try.underlying22 Try.sizeOf34 f32 h_l f33 (by omega) (by omega) (fun a312 o313 p314 => ?_))
          exact kS hj311 ⟨_, _, rfl, (p314.below hst.below)⟩
        · rintro ρ315 w316 hj317 ⟨f34, f31, _⟩
          have hst := hj317.2
          obtain ⟨a318, o319, e320, p321⟩ := f34
          exact go_yes 31 rfl (f31.trans (congrArg Value.bool b20)) (op_fieldAddr (s := 0) Try.underlying34 rfl rfl Try.sizeOf2 e320 (kS hj317 ⟨_, _, rfl, (p321.drop 2)⟩))
        · rintro ρ322 w323 hj324 ⟨f35, f31, _⟩
          have hst := hj324.2
          obtain ⟨a325, o326, e327, p328⟩ := f35
          exact go_yes 31 rfl (f31.trans (congrArg Value.bool b20)) (op_load1 (u := (.int .i64 ((l[i]'(by omega)).From))) Try.isAgg2 e327 p328 (kS hj324 rfl))
        · rintro ρ329 w330 hj331 ⟨f3, f31, _⟩
          have hst := hj331.2
          exact go_yes 31 rfl (f31.trans (congrArg Value.bool b20)) (op_fieldAddr (s := 0) Try.underlying34 rfl rfl Try.sizeOf2 (f3.trans q3_3) (kS hj331 rfl))
        · rintro ρ332 w333 hj334 ⟨f37, f31, _⟩
          have hst := hj334.2
          exact go_yes 31 rfl (f31.trans (congrArg Value.bool b20)) (op_load1 (u := (.int .i64 x.From)) Try.isAgg2 f37 ((hst.cell 0 rfl).drop 2) (kS hj334 rfl))
        · rintro ρ335 w336 hj337 ⟨f36, f38, f31, _⟩
          have hst := hj337.2
          exact go_yes 31 rfl (f31.trans (congrArg Value.bool b20)) (op_eql (k := .i64) (a := (l[i]'(by omega)).From) (b := x.From) f36 f38 (kS hj337 rfl))
        · rintro ρ338 w339 hj340 ⟨f31, f39, _⟩
          have hst := hj340.2
          exact go_plain (op_pick_t (.bool (decide (((l[i]'(by omega)).From) = x.From))) (f31.trans (congrArg Value.bool b20)) f39 (kS hj340 rfl))
        · rintro ρ341 w342 hj343 ⟨f40, _⟩
          have hst := hj343.2
          exact go_plain (op_move (.bool (decide (((l[i]'(by omega)).From) = x.From))) f40 (kS hj343 rfl))
        · rintro ρ344 w345 hj346 ⟨f0, f41, _⟩
          have hst := hj346.2
          exact go_no 41 rfl (f41.trans (congrArg Value.bool b31)) (kS hj346 rfl)
        · rintro ρ347 w348 hj349 ⟨f5, f41, _⟩
          have hst := hj349.2
          exact go_no 41 rfl (f41.trans (congrArg Value.bool b31)) (kS hj349 rfl)
        · rintro ρ350 w351 hj352 ⟨f42, f43, f41, _⟩
          have hst := hj352.2
          exact go_no 41 rfl (f41.trans (congrArg Value.bool b31)) (kS hj352 rfl)
        · rintro ρ353 w354 hj355 ⟨f44, f41, _⟩
          have hst := hj355.2
          exact go_no 41 rfl (f41.trans (congrArg Value.bool b31)) (kS hj355 rfl)
        · rintro ρ356 w357 hj358 ⟨f45, f41, _⟩
          have hst := hj358.2
          exact go_no 41 rfl (f41.trans (congrArg Value.bool b31)) (kS hj358 rfl)
        · rintro ρ359 w360 hj361 ⟨f3, f41, _⟩
          have hst := hj361.2
          exact go_no 41 rfl (f41.trans (congrArg Value.bool b31)) (kS hj361 rfl)
        · rintro ρ362 w363 hj364 ⟨f47, f41, _⟩
          have hst := hj364.2
          exact go_no 41 rfl (f41.trans (congrArg Value.bool b31)) (kS hj364 rfl)
        · rintro ρ365 w366 hj367 ⟨f46, f48, f41, _⟩
          have hst := hj367.2
          exact go_no 41 rfl (f41.trans (congrArg Value.bool b31)) (kS hj367 rfl)
        · rintro ρ368 w369 hj370 ⟨f41, f49, _⟩
          have hst := hj370.2
          exact go_plain (op_pick_f (.bool false) (f41.trans (congrArg Value.bool b31)) rfl (kS hj370 rfl))
        intro ρ371 w372 hbw372 hst hRw372 hkw372
        have uw372_0 : ρ371 0 = v_l := (hkw372 0 rfl).trans q3_0
        have uw372_1 : ρ371 1 = (.agg #[(.int .i64 x.Id), (.int .i64 x.Tier), (.int .i64 x.From), (.int .i64 x.To), (.int .u32 x.Sum)]) := (hkw372 1 rfl).trans q3_1
        have uw372_3 : ρ371 3 = (.pointer (some ⟨g1, 0, none⟩)) := (hkw372 3 rfl).trans q3_3
        have uw372_5 : ρ371 5 = (.int .i64 (i : Int)) := (hkw372 5 rfl).trans q3_5
        have uw372_6 : ρ371 6 = (.int .i64 (i : Int)) := (hkw372 6 rfl).trans rfl
        have uw372_7 : ρ371 7 = v_l := (hkw372 7 rfl).trans rfl
        have uw372_8 : ρ371 8 = (.int .i64 (l.length : Int)) := (hkw372 8 rfl).trans rfl
        have uw372_9 : ρ371 9 = (.bool (decide ((i : Int) < (l.length : Int)))) := (hkw372 9 rfl).trans rfl
        have uw372_50 : ρ371 50 = (.bool false) := hRw372 38 50 rfl
        refine then_n ?_
        refine cE_cond false uw372_50 (fun h => by cases h) (fun _ => ?_)
        refine cE_skip ?_
        refine block_n (then_n ?_)
        refine cE_region rfl ?_
        refine s_cons (op_move (.int .i64 (i : Int)) uw372_5 ?_)
        refine s_cons (op_add (k := .i64) (a := (i : Int)) (b := 1) ((i : Int) + 1) rfl rfl (xi64 (by omega) (by omega)) ?_)
        refine s_cons (op_assign (.int .i64 ((i : Int) + 1)) rfl ?_)
        refine s_nil ?_
        refine then_n ?_
        exact ⟨_, ⟨(i + 1), rfl, uw372_0, uw372_1, uw372_3, (congrArg (Value.int .i64) (show ((i : Int) + 1) = _ from by omega)), hst, (by omega), (by first | rfl | exact hI.trans (cov_go (by omega) (hl _ (List.getElem_mem _)) hx (by omega)))⟩, (by simp only [id]; omega)⟩
      have c373 : ¬ ((IntKind.i64.wrap ((l[i]'(by omega)).Tier - x.Tier)) = 1) := of_decide_eq_false b20
      refine cE_regionL hst [[(0, none)], [(5, none)], [(12, some 0), (13, some 1)], [(14, some 2)], [(15, some 3)], [(3, none)], [(17, some 5)], [(16, some 4), (18, some 6)], [(19, some 7)], [(0, none), (20, some 8)], [(5, none), (20, some 8)], [(21, some 9), (22, some 10), (20, some 8)], [(23, some 11), (20, some 8)], [(24, some 12), (20, some 8)], [(3, none), (20, some 8)], [(26, some 14), (20, some 8)], [(25, some 13), (27, some 15), (20, some 8)], [(28, some 16), (20, some 8)], [(20, some 8), (29, some 17)], [(30, some 18)], [(0, none), (31, some 19)], [(5, none), (31, some 19)], [(32, some 20), (33, some 21), (31, some 19)], [(34, some 22), (31, some 19)], [(35, some 23), (31, some 19)], [(3, none), (31, some 19)], [(37, some 25), (31, some 19)], [(36, some 24), (38, some 26), (31, some 19)], [(31, some 19), (39, some 27)], [(40, some 28)], [(0, none), (41, some 29)], [(5, none), (41, some 29)], [(42, some 30), (43, some 31), (41, some 29)], [(44, some 32), (41, some 29)], [(45, some 33), (41, some 29)], [(3, none), (41, some 29)], [(47, some 35), (41, some 29)], [(46, some 34), (48, some 36), (41, some 29)], [(41, some 29), (49, some 37)]] [(rEq v_l), (rEq (.int .i64 (i : Int))), (rPt [(.int .i64 ((l[i]'(by omega)).Id)), (.int .i64 ((l[i]'(by omega)).Tier)), (.int .i64 ((l[i]'(by omega)).From)), (.int .i64 ((l[i]'(by omega)).To)), (.int .u32 ((l[i]'(by omega)).Sum))]), (rPt [(.int .i64 ((l[i]'(by omega)).Tier)), (.int .i64 ((l[i]'(by omega)).From)), (.int .i64 ((l[i]'(by omega)).To)), (.int .u32 ((l[i]'(by omega)).Sum))]), (rEq (.int .i64 ((l[i]'(by omega)).Tier))), (rEq (.pointer (some ⟨g1, (0 + 1), none⟩))), (rEq (.int .i64 x.Tier)), (rEq (.bool (decide (x.Tier < ((l[i]'(by omega)).Tier))))), (rEq (.bool (decide (x.Tier < ((l[i]'(by omega)).Tier))))), (rEq v_l), (rEq (.int .i64 (i : Int))), (rPt [(.int .i64 ((l[i]'(by omega)).Id)), (.int .i64 ((l[i]'(by omega)).Tier)), (.int .i64 ((l[i]'(by omega)).From)), (.int .i64 ((l[i]'(by omega)).To)), (.int .u32 ((l[i]'(by omega)).Sum))]), (rPt [(.int .i64 ((l[i]'(by omega)).Tier)), (.int .i64 ((l[i]'(by omega)).From)), (.int .i64 ((l[i]'(by omega)).To)), (.int .u32 ((l[i]'(by omega)).Sum))]), (rEq (.int .i64 ((l[i]'(by omega)).Tier))), (rEq (.pointer (some ⟨g1, (0 + 1), none⟩))), (rEq (.int .i64 x.Tier)), (rEq (.int .i64 (IntKind.i64.wrap ((l[i]'(by omega)).Tier - x.Tier)))), (rEq (.bool (decide ((IntKind.i64.wrap ((l[i]'(by omega)).Tier - x.Tier)) = 1)))), (rEq (.bool (decide ((IntKind.i64.wrap ((l[i]'(by omega)).Tier - x.Tier)) = 1)))), (rEq (.bool (decide ((IntKind.i64.wrap ((l[i]'(by omega)).Tier - x.Tier)) = 1)))), (rEq undef), (rEq undef), (rEq undef), (rEq undef), (rEq undef), (rEq undef), (rEq undef), (rEq undef), (rEq (.bool false)), (rEq (.bool false)), (rEq undef), (rEq undef), (rEq undef), (rEq undef), (rEq undef), (rEq undef), (rEq undef), (rEq undef), (rEq (.bool false))] (by kernel_rfl) rfl (by kernel_rfl) ⟨sEq, sEq, sPt, sPt, sEq, sEq, sEq, sEq, sEq, sEq, sEq, sPt, sPt, sEq, sEq, sEq, sEq, sEq, sEq, sEq, sEq, sEq, sEq, sEq, sEq, sEq, sEq, sEq, sEq, sEq, sEq, sEq, sEq, sEq, sEq, sEq, sEq, sEq, sEq, trivial⟩ ⟨?_, ?_, ?_, ?_, ?_, ?_, ?_, ?_, ?_, ?_, ?_, ?_, ?_, ?_, ?_, ?_, ?_, ?_, ?_, ?_, ?_, ?_, ?_, ?_, ?_, ?_, ?_, ?_, ?_, ?_, ?_, ?_, ?_, ?_, ?_, ?_, ?_, ?_, ?_, trivial⟩ ?_
      · rintro ρ380 w381 hj382 ⟨f0, _⟩
        have hst := hj382.2
        exact go_plain (op_move v_l (f0.trans q3_0) (kS hj382 rfl))
      · rintro ρ383 w384 hj385 ⟨f5, _⟩
        have hst := hj385.2
        exact go_plain (op_move (.int .i64 (i : Int)) (f5.trans q3_5) (kS hj385 rfl))
      · rintro ρ386 w387 hj388 ⟨f12, f13, _⟩
        have hst := hj388.2
        refine go_plain (op_indexAddrN (E := infoE) (xs := l) i Try.underlying22 Try.sizeOf34 f12 h_l f13 (by omega) (by omega) (fun a389 o390 p391 => ?_))
        exact kS hj388 ⟨_, _, rfl, (p391.below hst.below)⟩
      · rintro ρ392 w393 hj394 ⟨f14, _⟩
        have hst := hj394.2
        obtain ⟨a395, o396, e397, p398⟩ := f14
        exact go_plain (op_fieldAddr (s := 0) Try.underlying34 rfl rfl Try.sizeOf3 e397 (kS hj394 ⟨_, _, rfl, (p398.drop 1)⟩))
      · rintro ρ399 w400 hj401 ⟨f15, _⟩
        have hst := hj401.2
        obtain ⟨a402, o403, e404, p405⟩ := f15
        exact go_plain (op_load1 (u := (.int .i64 ((l[i]'(by omega)).Tier))) Try.isAgg3 e404 p405 (kS hj401 rfl))
      · rintro ρ406 w407 hj408 ⟨f3, _⟩
        have hst := hj408.2
        exact go_plain (op_fieldAddr (s := 0) Try.underlying34 rfl rfl Try.sizeOf3 (f3.trans q3_3) (kS hj408 rfl))
      · rintro ρ409 w410 hj411 ⟨f17, _⟩
        have hst := hj411.2
        exact go_plain (op_load1 (u := (.int .i64 x.Tier)) Try.isAgg3 f17 ((hst.cell 0 rfl).drop 1) (kS hj411 rfl))
      · rintro ρ412 w413 hj414 ⟨f16, f18, _⟩
        have hst := hj414.2
        exact go_plain (op_gtr (k := .i64) (a := (l[i]'(by omega)).Tier) (b := x.Tier) f16 f18 (kS hj414 rfl))
      · rintro ρ415 w416 hj417 ⟨f19, _⟩
        have hst := hj417.2
        exact go_plain (op_move (.bool (decide (x.Tier < ((l[i]'(by omega)).Tier)))) f19 (kS hj417 rfl))
      · rintro ρ418 w419 hj420 ⟨f0, f20, _⟩
        have hst := hj420.2
        exact go_yes 20 rfl (f20.trans (congrArg Value.bool b12)) (op_move v_l (f0.trans q3_0) (kS hj420 rfl))
      · rintro ρ421 w422 hj423 ⟨f5, f20, _⟩
        have hst := hj423.2
        exact go_yes 20 rfl (f20.trans (congrArg Value.bool b12)) (op_move (.int .i64 (i : Int)) (f5.trans q3_5) (kS hj423 rfl))
      · rintro ρ424 w425 hj426 ⟨f21, f22, f20, _⟩
        have hst := hj426.2
        refine go_yes 20 rfl (f20.trans (congrArg Value.bool b12)) (op_indexAddrN (E := infoE) (xs := l) i Try.underlying22 Try.sizeOf34 f21 h_l f22 (by omega) (by omega) (fun a427 o428 p429 => ?_))
        exact kS hj426 ⟨_, _, rfl, (p429.below hst.below)⟩
      · rintro ρ430 w431 hj432 ⟨f23, f20, _⟩
        have hst := hj432.2
        obtain ⟨a433, o434, e435, p436⟩ := f23
        exact go_yes 20 rfl (f20.trans (congrArg Value.bool b12)) (op_fieldAddr (s := 0) Try.underlying34 rfl rfl Try.sizeOf3 e435 (kS hj432 ⟨_, _, rfl, (p436.drop 1)⟩))
      · rintro ρ437 w438 hj439 ⟨f24, f20, _⟩
        have hst := hj439.2
        obtain ⟨a440, o441, e442, p443⟩ := f24
        exact go_yes 20 rfl (f20.trans (congrArg Value.bool b12)) (op_load1 (u := (.int .i64 ((l[i]'(by omega)).Tier))) Try.isAgg3 e442 p443 (kS hj439 rfl))
      · rintro ρ444 w445 hj446 ⟨f3, f20, _⟩
        have hst := hj446.2
        exact go_yes 20 rfl (f20.trans (congrArg Value.bool b12)) (op_fieldAddr (s := 0) Try.underlying34 rfl rfl Try.sizeOf3 (f3.trans q3_3) (kS hj446 rfl))
      · rintro ρ447 w448 hj449 ⟨f26, f20, _⟩
        have hst := hj449.2
        exact go_yes 20 rfl (f20.trans (congrArg Value.bool b12)) (op_load1 (u := (.int .i64 x.Tier)) Try.isAgg3 f26 ((hst.cell 0 rfl).drop 1) (kS hj449 rfl))
      · rintro ρ450 w451 hj452 ⟨f25, f27, f20, _⟩
        have hst := hj452.2
        exact go_yes 20 rfl (f20.trans (congrArg Value.bool b12)) (op_sub (k := .i64) (a := (l[i]'(by omega)).Tier) (b := x.Tier) (IntKind.i64.wrap ((l[i]'(by omega)).Tier - x.Tier)) f25 f27 rfl (kS hj452 rfl))
      · rintro ρ453 w454 hj455 ⟨f28, f20, _⟩
        have hst := hj455.2
        exact go_yes 20 rfl (f20.trans (congrArg Value.bool b12)) (op_eql (k := .i64) (a := (IntKind.i64.wrap ((l[i]'(by omega)).Tier - x.Tier))) (b := 1) f28 rfl (kS hj455 rfl))
      · rintro ρ456 w457 hj458 ⟨f20, f29, _⟩
        have hst := hj458.2
        exact go_plain (op_pick_t (.bool (decide ((IntKind.i64.wrap ((l[i]'(by omega)).Tier - x.Tier)) = 1))) (f20.trans (congrArg Value.bool b12)) f29 (kS hj458 rfl))
      · rintro ρ459 w460 hj461 ⟨f30, _⟩
        have hst := hj461.2
        exact go_plain (op_move (.bool (decide ((IntKind.i64.wrap ((l[i]'(by omega)).Tier - x.Tier)) = 1))) f30 (kS hj461 rfl))
      · rintro ρ462 w463 hj464 ⟨f0, f31, _⟩
        have hst := hj464.2
        exact go_no 31 rfl (f31.trans (congrArg Value.bool b20)) (kS hj464 rfl)
      · rintro ρ465 w466 hj467 ⟨f5, f31, _⟩
        have hst := hj467.2
        exact go_no 31 rfl (f31.trans (congrArg Value.bool b20)) (kS hj467 rfl)
      · rintro ρ468 w469 hj470 ⟨f32, f33, f31, _⟩
        have hst := hj470.2
        exact go_no 31 rfl (f31.trans (congrArg Value.bool b20)) (kS hj470 rfl)
      · rintro ρ471 w472 hj473 ⟨f34, f31, _⟩
        have hst := hj473.2
        exact go_no 31 rfl (f31.trans (congrArg Value.bool b20)) (kS hj473 rfl)
      · rintro ρ474 w475 hj476 ⟨f35, f31, _⟩
        have hst := hj476.2
        exact go_no 31 rfl (f31.trans (congrArg Value.bool b20)) (kS hj476 rfl)
      · rintro ρ477 w478 hj479 ⟨f3, f31, _⟩
        have hst := hj479.2
        exact go_no 31 rfl (f31.trans (congrArg Value.bool b20)) (kS hj479 rfl)
      · rintro ρ480 w481 hj482 ⟨f37, f31, _⟩
        have hst := hj482.2
        exact go_no 31 rfl (f31.trans (congrArg Value.bool b20)) (kS hj482 rfl)
      · rintro ρ483 w484 hj485 ⟨f36, f38, f31, _⟩
        have hst := hj485.2
        exact go_no 31 rfl (f31.trans (congrArg Value.bool b20)) (kS hj485 rfl)
      · rintro ρ486 w487 hj488 ⟨f31, f39, _⟩
        have hst := hj488.2
        exact go_plain (op_pick_f (.bool false) (f31.trans (congrArg Value.bool b20)) rfl (kS hj488 rfl))
      · rintro ρ489 w490 hj491 ⟨f40, _⟩
        have hst := hj491.2
        exact go_plain (op_move (.bool false) f40 (kS hj491 rfl))
      · rintro ρ492 w493 hj494 ⟨f0, f41, _⟩
        have hst := hj494.2
        exact go_no 41 rfl f41 (kS hj494 rfl)
      · rintro ρ495 w496 hj497 ⟨f5, f41, _⟩
        have hst := hj497.2
        exact go_no 41 rfl f41 (kS hj497 rfl)
      · rintro ρ498 w499 hj500 ⟨f42, f43, f41, _⟩
        have hst := hj500.2
        exact go_no 41 rfl f41 (kS hj500 rfl)
      · rintro ρ501 w502 hj503 ⟨f44, f41, _⟩
        have hst := hj503.2
        exact go_no 41 rfl f41 (kS hj503 rfl)
      · rintro ρ504 w505 hj506 ⟨f45, f41, _⟩
        have hst := hj506.2
        exact go_no 41 rfl f41 (kS hj506 rfl)
      · rintro ρ507 w508 hj509 ⟨f3, f41, _⟩
        have hst := hj509.2
        exact go_no 41 rfl f41 (kS hj509 rfl)
      · rintro ρ510 w511 hj512 ⟨f47, f41, _⟩
        have hst := hj512.2
        exact go_no 41 rfl f41 (kS hj512 rfl)
      · rintro ρ513 w514 hj515 ⟨f46, f48, f41, _⟩
        have hst := hj515.2
        exact go_no 41 rfl f41 (kS hj515 rfl)
      · rintro ρ516 w517 hj518 ⟨f41, f49, _⟩
        have hst := hj518.2
        exact go_plain (op_pick_f (.bool false) f41 rfl (kS hj518 rfl))
      intro ρ519 w520 hbw520 hst hRw520 hkw520
      have uw520_0 : ρ519 0 = v_l := (hkw520 0 rfl).trans q3_0
      have uw520_1 : ρ519 1 = (.agg #[(.int .i64 x.Id), (.int .i64 x.Tier), (.int .i64 x.From), (.int .i64 x.To), (.int .u32 x.Sum)]) := (hkw520 1 rfl).trans q3_1
      have uw520_3 : ρ519 3 = (.pointer (some ⟨g1, 0, none⟩)) := (hkw520 3 rfl).trans q3_3
      have uw520_5 : ρ519 5 = (.int .i64 (i : Int)) := (hkw520 5 rfl).trans q3_5
      have uw520_6 : ρ519 6 = (.int .i64 (i : Int)) := (hkw520 6 rfl).trans rfl
      have uw520_7 : ρ519 7 = v_l := (hkw520 7 rfl).trans rfl
      have uw520_8 : ρ519 8 = (.int .i64 (l.length : Int)) := (hkw520 8 rfl).trans rfl
      have uw520_9 : ρ519 9 = (.bool (decide ((i : Int) < (l.length : Int)))) := (hkw520 9 rfl).trans rfl
      have uw520_50 : ρ519 50 = (.bool false) := hRw520 38 50 rfl
      refine then_n ?_
      refine cE_cond false uw520_50 (fun h => by cases h) (fun _ => ?_)
      refine cE_skip ?_
      refine block_n (then_n ?_)
      refine cE_region rfl ?_
      refine s_cons (op_move (.int .i64 (i : Int)) uw520_5 ?_)
      refine s_cons (op_add (k := .i64) (a := (i : Int)) (b := 1) ((i : Int) + 1) rfl rfl (xi64 (by omega) (by omega)) ?_)
      refine s_cons (op_assign (.int .i64 ((i : Int) + 1)) rfl ?_)
      refine s_nil ?_
      refine then_n ?_
      exact ⟨_, ⟨(i + 1), rfl, uw520_0, uw520_1, uw520_3, (congrArg (Value.int .i64) (show ((i : Int) + 1) = _ from by omega)), hst, (by omega), (by first | rfl | exact hI.trans (cov_go (by omega) (hl _ (List.getElem_mem _)) hx (by omega)))⟩, (by simp only [id]; omega)⟩
    have c521 : ¬ (x.Tier < ((l[i]'(by omega)).Tier)) := of_decide_eq_false b12
    refine cE_regionL hst [[(0, none)], [(5, none)], [(12, some 0), (13, some 1)], [(14, some 2)], [(15, some 3)], [(3, none)], [(17, some 5)], [(16, some 4), (18, some 6)], [(19, some 7)], [(0, none), (20, some 8)], [(5, none), (20, some 8)], [(21, some 9), (22, some 10), (20, some 8)], [(23, some 11), (20, some 8)], [(24, some 12), (20, some 8)], [(3, none), (20, some 8)], [(26, some 14), (20, some 8)], [(25, some 13), (27, some 15), (20, some 8)], [(28, some 16), (20, some 8)], [(20, some 8), (29, some 17)], [(30, some 18)], [(0, none), (31, some 19)], [(5, none), (31, some 19)], [(32, some 20), (33, some 21), (31, some 19)], [(34, some 22), (31, some 19)], [(35, some 23), (31, some 19)], [(3, none), (31, some 19)], [(37, some 25), (31, some 19)], [(36, some 24), (38, some 26), (31, some 19)], [(31, some 19), (39, some 27)], [(40, some 28)], [(0, none), (41, some 29)], [(5, none), (41, some 29)], [(42, some 30), (43, some 31), (41, some 29)], [(44, some 32), (41, some 29)], [(45, some 33), (41, some 29)], [(3, none), (41, some 29)], [(47, some 35), (41, some 29)], [(46, some 34), (48, some 36), (41, some 29)], [(41, some 29), (49, some 37)]] [(rEq v_l), (rEq (.int .i64 (i : Int))), (rPt [(.int .i64 ((l[i]'(by omega)).Id)), (.int .i64 ((l[i]'(by omega)).Tier)), (.int .i64 ((l[i]'(by omega)).From)), (.int .i64 ((l[i]'(by omega)).To)), (.int .u32 ((l[i]'(by omega)).Sum))]), (rPt [(.int .i64 ((l[i]'(by omega)).Tier)), (.int .i64 ((l[i]'(by omega)).From)), (.int .i64 ((l[i]'(by omega)).To)), (.int .u32 ((l[i]'(by omega)).Sum))]), (rEq (.int .i64 ((l[i]'(by omega)).Tier))), (rEq (.pointer (some ⟨g1, (0 + 1), none⟩))), (rEq (.int .i64 x.Tier)), (rEq (.bool (decide (x.Tier < ((l[i]'(by omega)).Tier))))), (rEq (.bool (decide (x.Tier < ((l[i]'(by omega)).Tier))))), (rEq undef), (rEq undef), (rEq undef), (rEq undef), (rEq undef), (rEq undef), (rEq undef), (rEq undef), (rEq undef), (rEq (.bool false)), (rEq (.bool false)), (rEq undef), (rEq undef), (rEq undef), (rEq undef), (rEq undef), (rEq undef), (rEq undef), (rEq undef), (rEq (.bool false)), (rEq (.bool false)), (rEq undef), (rEq undef), (rEq undef), (rEq undef), (rEq undef), (rEq undef), (rEq undef), (rEq undef), (rEq (.bool false))] (by kernel_rfl) rfl (by kernel_rfl) ⟨sEq, sEq, sPt, sPt, sEq, sEq, sEq, sEq, sEq, sEq, sEq, sEq, sEq, sEq, sEq, sEq, sEq, sEq, sEq, sEq, sEq, sEq, sEq, sEq, sEq, sEq, sEq, sEq, sEq, sEq, sEq, sEq, sEq, sEq, sEq, sEq, sEq, sEq, sEq, trivial⟩ ⟨?_, ?_, ?_, ?_, ?_, ?_, ?_, ?_, ?_, ?_, ?_, ?_, ?_, ?_, ?_, ?_, ?_, ?_, ?_, ?_, ?_, ?_, ?_, ?_, ?_, ?_, ?_, ?_, ?_, ?_, ?_, ?_, ?_, ?_, ?_, ?_, ?_, ?_, ?_, trivial⟩ ?_
    · rintro ρ525 w526 hj527 ⟨f0, _⟩
      have hst := hj527.2
      exact go_plain (op_move v_l (f0.trans q3_0) (kS hj527 rfl))
    · rintro ρ528 w529 hj530 ⟨f5, _⟩
      have hst := hj530.2
      exact go_plain (op_move (.int .i64 (i : Int)) (f5.trans q3_5) (kS hj530 rfl))
    · rintro ρ531 w532 hj533 ⟨f12, f13, _⟩
      have hst := hj533.2
      refine go_plain (op_indexAddrN (E := infoE) (xs := l) i Try.underlying22 Try.sizeOf34 f12 h_l f13 (by omega) (by omega) (fun a534 o535 p536 => ?_))
      exact kS hj533 ⟨_, _, rfl, (p536.below hst.below)⟩
    · rintro ρ537 w538 hj539 ⟨f14, _⟩
      have hst := hj539.2
      obtain ⟨a540, o541, e542, p543⟩ := f14
      exact go_plain (op_fieldAddr (s := 0) Try.underlying34 rfl rfl Try.sizeOf3 e542 (kS hj539 ⟨_, _, rfl, (p543.drop 1)⟩))
    · rintro ρ544 w545 hj546 ⟨f15, _⟩
      have hst := hj546.2
      obtain ⟨a547, o548, e549, p550⟩ := f15
      exact go_plain (op_load1 (u := (.int .i64 ((l[i]'(by omega)).Tier))) Try.isAgg3 e549 p550 (kS hj546 rfl))
    · rintro ρ551 w552 hj553 ⟨f3, _⟩
      have hst := hj553.2
      exact go_plain (op_fieldAddr (s := 0) Try.underlying34 rfl rfl Try.sizeOf3 (f3.trans q3_3) (kS hj553 rfl))
    · rintro ρ554 w555 hj556 ⟨f17, _⟩
      have hst := hj556.2
      exact go_plain (op_load1 (u := (.int .i64 x.Tier)) Try.isAgg3 f17 ((hst.cell 0 rfl).drop 1) (kS hj556 rfl))
    · rintro ρ557 w558 hj559 ⟨f16, f18, _⟩
      have hst := hj559.2
      exact go_plain (op_gtr (k := .i64) (a := (l[i]'(by omega)).Tier) (b := x.Tier) f16 f18 (kS hj559 rfl))
    · rintro ρ560 w561 hj562 ⟨f19, _⟩
      have hst := hj562.2
      exact go_plain (op_move (.bool (decide (x.Tier < ((l[i]'(by omega)).Tier)))) f19 (kS hj562 rfl))
    · rintro ρ563 w564 hj565 ⟨f0, f20, _⟩
      have hst := hj565.2
      exact go_no 20 rfl (f20.trans (congrArg Value.bool b12)) (kS hj565 rfl)
    · rintro ρ566 w567 hj568 ⟨f5, f20, _⟩
      have hst := hj568.2
      exact go_no 20 rfl (f20.trans (congrArg Value.bool b12)) (kS hj568 rfl)
    · rintro ρ569 w570 hj571 ⟨f21, f22, f20, _⟩
      have hst := hj571.2
      exact go_no 20 rfl (f20.trans (congrArg Value.bool b12)) (kS hj571 rfl)
    · rintro ρ572 w573 hj574 ⟨f23, f20, _⟩
      have hst := hj574.2
      exact go_no 20 rfl (f20.trans (congrArg Value.bool b12)) (kS hj574 rfl)
    · rintro ρ575 w576 hj577 ⟨f24, f20, _⟩
      have hst := hj577.2
      exact go_no 20 rfl (f20.trans (congrArg Value.bool b12)) (kS hj577 rfl)
    · rintro ρ578 w579 hj580 ⟨f3, f20, _⟩
      have hst := hj580.2
      exact go_no 20 rfl (f20.trans (congrArg Value.bool b12)) (kS hj580 rfl)
    · rintro ρ581 w582 hj583 ⟨f26, f20, _⟩
      have hst := hj583.2
      exact go_no 20 rfl (f20.trans (congrArg Value.bool b12)) (kS hj583 rfl)
    · rintro ρ584 w585 hj586 ⟨f25, f27, f20, _⟩
      have hst := hj586.2
      exact go_no 20 rfl (f20.trans (congrArg Value.bool b12)) (kS hj586 rfl)
    · rintro ρ587 w588 hj589 ⟨f28, f20, _⟩
      have hst := hj589.2
      exact go_no 20 rfl (f20.trans (congrArg Value.bool b12)) (kS hj589 rfl)
    · rintro ρ590 w591 hj592 ⟨f20, f29, _⟩
      have hst := hj592.2
      exact go_plain (op_pick_f (.bool false) (f20.trans (congrArg Value.bool b12)) rfl (kS hj592 rfl))
    · rintro ρ593 w594 hj595 ⟨f30, _⟩
      have hst := hj595.2
      exact go_plain (op_move (.bool false) f30 (kS hj595 rfl))
    · rintro ρ596 w597 hj598 ⟨f0, f31, _⟩
      have hst := hj598.2
      exact go_no 31 rfl f31 (kS hj598 rfl)
    · rintro ρ599 w600 hj601 ⟨f5, f31, _⟩
      have hst := hj601.2
      exact go_no 31 rfl f31 (kS hj601 rfl)
    · rintro ρ602 w603 hj604 ⟨f32, f33, f31, _⟩
      have hst := hj604.2
      exact go_no 31 rfl f31 (kS hj604 rfl)
    · rintro ρ605 w606 hj607 ⟨f34, f31, _⟩
      have hst := hj607.2
      exact go_no 31 rfl f31 (kS hj607 rfl)
    · rintro ρ608 w609 hj610 ⟨f35, f31, _⟩
      have hst := hj610.2
      exact go_no 31 rfl f31 (kS hj610 rfl)
    · rintro ρ611 w612 hj613 ⟨f3, f31, _⟩
      have hst := hj613.2
      exact go_no 31 rfl f31 (kS hj613 rfl)
    · rintro ρ614 w615 hj616 ⟨f37, f31, _⟩
      have hst := hj616.2
      exact go_no 31 rfl f31 (kS hj616 rfl)
    · rintro ρ617 w618 hj619 ⟨f36, f38, f31, _⟩
      have hst := hj619.2
      exact go_no 31 rfl f31 (kS hj619 rfl)
    · rintro ρ620 w621 hj622 ⟨f31, f39, _⟩
      have hst := hj622.2
      exact go_plain (op_pick_f (.bool false) f31 rfl (kS hj622 rfl))
    · rintro ρ623 w624 hj625 ⟨f40, _⟩
      have hst := hj625.2
      exact go_plain (op_move (.bool false) f40 (kS hj625 rfl))
    · rintro ρ626 w627 hj628 ⟨f0, f41, _⟩
      have hst := hj628.2
      exact go_no 41 rfl f41 (kS hj628 rfl)
    · rintro ρ629 w630 hj631 ⟨f5, f41, _⟩
      have hst := hj631.2
      exact go_no 41 rfl f41 (kS hj631 rfl)
    · rintro ρ632 w633 hj634 ⟨f42, f43, f41, _⟩
      have hst := hj634.2
      exact go_no 41 rfl f41 (kS hj634 rfl)
    · rintro ρ635 w636 hj637 ⟨f44, f41, _⟩
      have hst := hj637.2
      exact go_no 41 rfl f41 (kS hj637 rfl)
    · rintro ρ638 w639 hj640 ⟨f45, f41, _⟩
      have hst := hj640.2
      exact go_no 41 rfl f41 (kS hj640 rfl)
    · rintro ρ641 w642 hj643 ⟨f3, f41, _⟩
      have hst := hj643.2
      exact go_no 41 rfl f41 (kS hj643 rfl)
    · rintro ρ644 w645 hj646 ⟨f47, f41, _⟩
      have hst := hj646.2
      exact go_no 41 rfl f41 (kS hj646 rfl)
    · rintro ρ647 w648 hj649 ⟨f46, f48, f41, _⟩
      have hst := hj649.2
      exact go_no 41 rfl f41 (kS hj649 rfl)
    · rintro ρ650 w651 hj652 ⟨f41, f49, _⟩
      have hst := hj652.2
      exact go_plain (op_pick_f (.bool false) f41 rfl (kS hj652 rfl))
    intro ρ653 w654 hbw654 hst hRw654 hkw654
    have uw654_0 : ρ653 0 = v_l := (hkw654 0 rfl).trans q3_0
    have uw654_1 : ρ653 1 = (.agg #[(.int .i64 x.Id), (.int .i64 x.Tier), (.int .i64 x.From), (.int .i64 x.To), (.int .u32 x.Sum)]) := (hkw654 1 rfl).trans q3_1
    have uw654_3 : ρ653 3 = (.pointer (some ⟨g1, 0, none⟩)) := (hkw654 3 rfl).trans q3_3
    have uw654_5 : ρ653 5 = (.int .i64 (i : Int)) := (hkw654 5 rfl).trans q3_5
    have uw654_6 : ρ653 6 = (.int .i64 (i : Int)) := (hkw654 6 rfl).trans rfl
    have uw654_7 : ρ653 7 = v_l := (hkw654 7 rfl).trans rfl
    have uw654_8 : ρ653 8 = (.int .i64 (l.length : Int)) := (hkw654 8 rfl).trans rfl
    have uw654_9 : ρ653 9 = (.bool (decide ((i : Int) < (l.length : Int)))) := (hkw654 9 rfl).trans rfl
    have uw654_50 : ρ653 50 = (.bool false) := hRw654 38 50 rfl
    refine then_n ?_
    refine cE_cond false uw654_50 (fun h => by cases h) (fun _ => ?_)
    refine cE_skip ?_
    refine block_n (then_n ?_)
    refine cE_region rfl ?_
    refine s_cons (op_move (.int .i64 (i : Int)) uw654_5 ?_)
    refine s_cons (op_add (k := .i64) (a := (i : Int)) (b := 1) ((i : Int) + 1) rfl rfl (xi64 (by omega) (by omega)) ?_)
    refine s_cons (op_assign (.int .i64 ((i : Int) + 1)) rfl ?_)
    refine s_nil ?_
    refine then_n ?_
    exact ⟨_, ⟨(i + 1), rfl, uw654_0, uw654_1, uw654_3, (congrArg (Value.int .i64) (show ((i : Int) + 1) = _ from by omega)), hst, (by omega), (by first | rfl | exact hI.trans (cov_go (by omega) (hl _ (List.getElem_mem _)) hx (by omega)))⟩, (by simp only [id]; omega)⟩
  have c655 : ¬ ((i : Int) < (l.length : Int)) := of_decide_eq_false b7
  refine cE_cond false (congrArg Value.bool b7) (fun h => by cases h) (fun _ => ?_)
  refine cE_exit ?_
  refine then_x (then_x (block_hit (then_n ?_)))
  refine cE_seq ?_
  refine cE_region rfl ?_
  refine s_cons (op_assign (.bool false) rfl ?_)
  refine s_nil ?_
  refine then_n ?_
  refine cE_ret ?_
  refine post_r _ (res1 (v := (.bool false)) rfl) ?_
  exact ⟨(retv1 (congrArg Value.bool (show false = (upI l x) from by first | exact (hI.trans (cov_at (by omega) (hl _ (List.getElem_mem _)) hx (by omega))).symm | exact (hI.trans (cov_end (by omega))).symm))), hst.bare⟩

end Go.Proofs.Ytadnedoecbfojaa
