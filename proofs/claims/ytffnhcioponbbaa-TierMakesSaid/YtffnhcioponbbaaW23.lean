/- the reference: twinkeepref1.Rising -/
import Derived.Test.YtffnhcioponbbaaTR
import Derived.Test.YtffnhcioponbbaaT
import Derived.Test.YtffnhcioponbbaaW20
import Derived.Test.YtffnhcioponbbaaW21
import Derived.Test.YtffnhcioponbbaaW22
namespace Go.Proofs.Ytffnhcioponbbaa
open Go.RowKit

theorem c_rRising (w0 : World) (v_l : Value) (l : List Sample) (h_l : Sl w0 sampE v_l l) (hl : ∀ s ∈ l, s.ok) :
    Calls Try.prog 32 #[v_l] w0 fun e w' => e = .returned (.bool (risingA l)) ∧ St w0 w' [] := by
  refine calls_E (n := 42) (ts := [2]) Try.func32 rfl rfl rfl (by simp) ?_
  have hst := St.start w0
  refine cE_seq ?_
  refine cE_region rfl ?_
  refine s_cons (op_assign (.bool false) rfl ?_)
  refine s_nil ?_
  refine then_n ?_
  refine cE_seq ?_
  refine cE_seq ?_
  refine cE_region rfl ?_
  refine s_cons (op_assign (.int .i64 0) rfl ?_)
  refine s_nil ?_
  refine then_n ?_
  refine cE_block ?_
  refine cE_loop (fun (m : Nat) (ρ : Env) (w : World) => ∃ (i : Nat), m = l.length - i ∧ ρ 0 = v_l ∧ ρ 3 = (.int .i64 (i : Int)) ∧ St w0 w [] ∧ i ≤ l.length ∧ -1 ≤ lastT l i ∧ risingA l = risesFrom (lastT l i) (l.drop i)) id _ ⟨0, rfl, rfl, (congrArg (Value.int .i64) (show 0 = _ from by omega)), hst, (by omega), (by first | exact (by decide : (-1 : Int) ≤ -1) | (rw [lastT_succ (by omega)]; omega)), (by first | rfl | exact hI.trans (rr_go (by omega) (by omega) (by omega) (by first | (left; omega) | (right; rw [lastT_pred (by omega) (by omega)]; assumption))))⟩ ?_
  rintro m2 ρ3 w4 ⟨i, hm2, q1_0, q1_3, hst, hi, hlt, hI⟩
  have hlen := h_l.len
  refine cE_seq ?_
  refine cE_seq ?_
  refine cE_region rfl ?_
  refine s_cons (op_move (.int .i64 (i : Int)) q1_3 ?_)
  refine s_cons (op_move v_l q1_0 ?_)
  refine s_cons (op_len (E := sampE) (xs := l) Try.underlying22 rfl h_l ?_)
  refine s_cons (op_lss (k := .i64) (a := (i : Int)) (b := (l.length : Int)) rfl rfl ?_)
  refine s_nil ?_
  refine then_n ?_
  rcases Bool.eq_false_or_eq_true (decide ((i : Int) < (l.length : Int))) with b5 | b5
  · have c6 : (i : Int) < (l.length : Int) := of_decide_eq_true b5
    refine cE_cond true (congrArg Value.bool b5) (fun _ => ?_) (fun h => by cases h)
    refine cE_skip ?_
    refine then_n ?_
    refine cE_seq ?_
    refine cE_block ?_
    refine cE_seq ?_
    rcases Bool.eq_false_or_eq_true (decide (((l[i]'(by omega)).T) < 0)) with b10 | b10
    · have c11 : ((l[i]'(by omega)).T) < 0 := of_decide_eq_true b10
      refine cE_regionL hst [[(0, none)], [(3, none)], [(10, some 0), (11, some 1)], [(12, some 2)], [(13, some 3)], [(14, some 4)], [(15, some 5)], [(0, none), (16, some 6)], [(3, none), (16, some 6)], [(17, some 7), (18, some 8), (16, some 6)], [(19, some 9), (16, some 6)], [(20, some 10), (16, some 6)], [(21, some 11), (16, some 6)], [(16, some 6), (22, some 12)], [(23, some 13)], [(3, none), (24, some 14)], [(25, some 15), (24, some 14)], [(26, some 16), (24, some 14)], [(0, none), (27, some 17)], [(3, none), (27, some 17)], [(28, some 18), (29, some 19), (27, some 17)], [(30, some 20), (27, some 17)], [(31, some 21), (27, some 17)], [(0, none), (27, some 17)], [(3, none), (27, some 17)], [(34, some 24), (27, some 17)], [(33, some 23), (35, some 25), (27, some 17)], [(36, some 26), (27, some 17)], [(37, some 27), (27, some 17)], [(32, some 22), (38, some 28), (27, some 17)], [(27, some 17), (39, some 29), (24, some 14)], [(24, some 14), (40, some 30)]] [(rEq v_l), (rEq (.int .i64 (i : Int))), (rPt [(.int .i64 ((l[i]'(by omega)).T)), (.int .i64 ((l[i]'(by omega)).V))]), (rPt [(.int .i64 ((l[i]'(by omega)).T)), (.int .i64 ((l[i]'(by omega)).V))]), (rEq (.int .i64 ((l[i]'(by omega)).T))), (rEq (.bool (decide (((l[i]'(by omega)).T) < 0)))), (rEq (.bool (decide (((l[i]'(by omega)).T) < 0)))), (rEq undef), (rEq undef), (rEq undef), (rEq undef), (rEq undef), (rEq undef), (rEq (.bool true)), (rEq (.bool true)), (rEq undef), (rEq undef), (rEq undef), (rEq undef), (rEq undef), (rEq undef), (rEq undef), (rEq undef), (rEq undef), (rEq undef), (rEq undef), (rEq undef), (rEq undef), (rEq undef), (rEq undef), (rEq undef), (rEq (.bool true))] (by kernel_rfl) rfl (by kernel_rfl) ⟨sEq, sEq, sPt, sPt, sEq, sEq, sEq, sEq, sEq, sEq, sEq, sEq, sEq, sEq, sEq, sEq, sEq, sEq, sEq, sEq, sEq, sEq, sEq, sEq, sEq, sEq, sEq, sEq, sEq, sEq, sEq, sEq, trivial⟩ ⟨?_, ?_, ?_, ?_, ?_, ?_, ?_, ?_, ?_, ?_, ?_, ?_, ?_, ?_, ?_, ?_, ?_, ?_, ?_, ?_, ?_, ?_, ?_, ?_, ?_, ?_, ?_, ?_, ?_, ?_, ?_, ?_, trivial⟩ ?_
      · rintro ρ15 w16 hj17 ⟨f0, _⟩
        have hst := hj17.2
        exact go_plain (op_move v_l (f0.trans q1_0) (kS hj17 rfl))
      · rintro ρ18 w19 hj20 ⟨f3, _⟩
        have hst := hj20.2
        exact go_plain (op_move (.int .i64 (i : Int)) (f3.trans q1_3) (kS hj20 rfl))
      · rintro ρ21 w22 hj23 ⟨f10, f11, _⟩
        have hst := hj23.2
        refine go_plain (op_indexAddrN (E := sampE) (xs := l) i Try.underlying22 Try.sizeOf32 f10 h_l f11 (by omega) (by omega) (fun a24 o25 p26 => ?_))
        exact kS hj23 ⟨_, _, rfl, (p26.below hst.below)⟩
      · rintro ρ27 w28 hj29 ⟨f12, _⟩
        have hst := hj29.2
        obtain ⟨a30, o31, e32, p33⟩ := f12
        exact go_plain (op_fieldAddr (s := 0) Try.underlying32 rfl rfl Try.sizeOf2 e32 (kS hj29 ⟨_, _, rfl, p33⟩))
      · rintro ρ34 w35 hj36 ⟨f13, _⟩
        have hst := hj36.2
        obtain ⟨a37, o38, e39, p40⟩ := f13
        exact go_plain (op_load1 (u := (.int .i64 ((l[i]'(by omega)).T))) Try.isAgg2 e39 p40 (kS hj36 rfl))
      · rintro ρ41 w42 hj43 ⟨f14, _⟩
        have hst := hj43.2
        exact go_plain (op_lss (k := .i64) (a := (l[i]'(by omega)).T) (b := 0) f14 rfl (kS hj43 rfl))
      · rintro ρ44 w45 hj46 ⟨f15, _⟩
        have hst := hj46.2
        exact go_plain (op_move (.bool (decide (((l[i]'(by omega)).T) < 0))) f15 (kS hj46 rfl))
      · rintro ρ47 w48 hj49 ⟨f0, f16, _⟩
        have hst := hj49.2
        exact go_no 16 rfl (f16.trans (congrArg Value.bool b10)) (kS hj49 rfl)
      · rintro ρ50 w51 hj52 ⟨f3, f16, _⟩
        have hst := hj52.2
        exact go_no 16 rfl (f16.trans (congrArg Value.bool b10)) (kS hj52 rfl)
      · rintro ρ53 w54 hj55 ⟨f17, f18, f16, _⟩
        have hst := hj55.2
        exact go_no 16 rfl (f16.trans (congrArg Value.bool b10)) (kS hj55 rfl)
      · rintro ρ56 w57 hj58 ⟨f19, f16, _⟩
        have hst := hj58.2
        exact go_no 16 rfl (f16.trans (congrArg Value.bool b10)) (kS hj58 rfl)
      · rintro ρ59 w60 hj61 ⟨f20, f16, _⟩
        have hst := hj61.2
        exact go_no 16 rfl (f16.trans (congrArg Value.bool b10)) (kS hj61 rfl)
      · rintro ρ62 w63 hj64 ⟨f21, f16, _⟩
        have hst := hj64.2
        exact go_no 16 rfl (f16.trans (congrArg Value.bool b10)) (kS hj64 rfl)
      · rintro ρ65 w66 hj67 ⟨f16, f22, _⟩
        have hst := hj67.2
        exact go_plain (op_pick_t (.bool true) (f16.trans (congrArg Value.bool b10)) rfl (kS hj67 rfl))
      · rintro ρ68 w69 hj70 ⟨f23, _⟩
        have hst := hj70.2
        exact go_plain (op_move (.bool true) f23 (kS hj70 rfl))
      · rintro ρ71 w72 hj73 ⟨f3, f24, _⟩
        have hst := hj73.2
        exact go_no 24 rfl f24 (kS hj73 rfl)
      · rintro ρ74 w75 hj76 ⟨f25, f24, _⟩
        have hst := hj76.2
        exact go_no 24 rfl f24 (kS hj76 rfl)
      · rintro ρ77 w78 hj79 ⟨f26, f24, _⟩
        have hst := hj79.2
        exact go_no 24 rfl f24 (kS hj79 rfl)
      · rintro ρ80 w81 hj82 ⟨f0, f27, _⟩
        have hst := hj82.2
        exact go_un 27 rfl f27 (kS hj82 rfl)
      · rintro ρ83 w84 hj85 ⟨f3, f27, _⟩
        have hst := hj85.2
        exact go_un 27 rfl f27 (kS hj85 rfl)
      · rintro ρ86 w87 hj88 ⟨f28, f29, f27, _⟩
        have hst := hj88.2
        exact go_un 27 rfl f27 (kS hj88 rfl)
      · rintro ρ89 w90 hj91 ⟨f30, f27, _⟩
        have hst := hj91.2
        exact go_un 27 rfl f27 (kS hj91 rfl)
      · rintro ρ92 w93 hj94 ⟨f31, f27, _⟩
        have hst := hj94.2
        exact go_un 27 rfl f27 (kS hj94 rfl)
      · rintro ρ95 w96 hj97 ⟨f0, f27, _⟩
        have hst := hj97.2
        exact go_un 27 rfl f27 (kS hj97 rfl)
      · rintro ρ98 w99 hj100 ⟨f3, f27, _⟩
        have hst := hj100.2
        exact go_un 27 rfl f27 (kS hj100 rfl)
      · rintro ρ101 w102 hj103 ⟨f34, f27, _⟩
        have hst := hj103.2
        exact go_un 27 rfl f27 (kS hj103 rfl)
      · rintro ρ104 w105 hj106 ⟨f33, f35, f27, _⟩
        have hst := hj106.2
        exact go_un 27 rfl f27 (kS hj106 rfl)
      · rintro ρ107 w108 hj109 ⟨f36, f27, _⟩
        have hst := hj109.2
        exact go_un 27 rfl f27 (kS hj109 rfl)
      · rintro ρ110 w111 hj112 ⟨f37, f27, _⟩
        have hst := hj112.2
        exact go_un 27 rfl f27 (kS hj112 rfl)
      · rintro ρ113 w114 hj115 ⟨f32, f38, f27, _⟩
        have hst := hj115.2
        exact go_un 27 rfl f27 (kS hj115 rfl)
      · rintro ρ116 w117 hj118 ⟨f27, f39, f24, _⟩
        have hst := hj118.2
        exact go_no 24 rfl f24 (kS hj118 rfl)
      · rintro ρ119 w120 hj121 ⟨f24, f40, _⟩
        have hst := hj121.2
        exact go_plain (op_pick_t (.bool true) f24 rfl (kS hj121 rfl))
      · intro ρ122 w123 hbw123 hst hRw123 hkw123
        have uw123_0 : ρ122 0 = v_l := (hkw123 0 rfl).trans q1_0
        have uw123_3 : ρ122 3 = (.int .i64 (i : Int)) := (hkw123 3 rfl).trans q1_3
        have uw123_4 : ρ122 4 = (.int .i64 (i : Int)) := (hkw123 4 rfl).trans rfl
        have uw123_5 : ρ122 5 = v_l := (hkw123 5 rfl).trans rfl
        have uw123_6 : ρ122 6 = (.int .i64 (l.length : Int)) := (hkw123 6 rfl).trans rfl
        have uw123_7 : ρ122 7 = (.bool (decide ((i : Int) < (l.length : Int)))) := (hkw123 7 rfl).trans rfl
        have uw123_41 : ρ122 41 = (.bool true) := hRw123 31 41 rfl
        refine then_n ?_
        refine cE_cond true uw123_41 (fun _ => ?_) (fun h => by cases h)
        refine cE_seq ?_
        refine cE_region rfl ?_
        refine s_cons (op_assign (.bool false) rfl ?_)
        refine s_nil ?_
        refine then_n ?_
        refine cE_ret ?_
        refine block_r (then_r (then_r (block_r (then_r ?_))))
        refine post_r _ (res1 (v := (.bool false)) rfl) ?_
        exact ⟨(retv1 (congrArg Value.bool (show false = (risingA l) from by first | exact (hI.trans (rr_no (by omega) (by first | (left; omega) | (right; left; omega) | (right; right; exact ⟨by omega, (by rw [lastT_pred (by omega) (by omega)]; assumption)⟩)) hlt)).symm | exact (hI.trans (rises_end (by omega))).symm))), hst.bare⟩
    · have c124 : ¬ (((l[i]'(by omega)).T) < 0) := of_decide_eq_false b10
      rcases Bool.eq_false_or_eq_true (decide (1099511627776 < ((l[i]'(by omega)).T))) with b131 | b131
      · have c132 : 1099511627776 < ((l[i]'(by omega)).T) := of_decide_eq_true b131
        refine cE_regionL hst [[(0, none)], [(3, none)], [(10, some 0), (11, some 1)], [(12, some 2)], [(13, some 3)], [(14, some 4)], [(15, some 5)], [(0, none), (16, some 6)], [(3, none), (16, some 6)], [(17, some 7), (18, some 8), (16, some 6)], [(19, some 9), (16, some 6)], [(20, some 10), (16, some 6)], [(21, some 11), (16, some 6)], [(16, some 6), (22, some 12)], [(23, some 13)], [(3, none), (24, some 14)], [(25, some 15), (24, some 14)], [(26, some 16), (24, some 14)], [(0, none), (27, some 17)], [(3, none), (27, some 17)], [(28, some 18), (29, some 19), (27, some 17)], [(30, some 20), (27, some 17)], [(31, some 21), (27, some 17)], [(0, none), (27, some 17)], [(3, none), (27, some 17)], [(34, some 24), (27, some 17)], [(33, some 23), (35, some 25), (27, some 17)], [(36, some 26), (27, some 17)], [(37, some 27), (27, some 17)], [(32, some 22), (38, some 28), (27, some 17)], [(27, some 17), (39, some 29), (24, some 14)], [(24, some 14), (40, some 30)]] [(rEq v_l), (rEq (.int .i64 (i : Int))), (rPt [(.int .i64 ((l[i]'(by omega)).T)), (.int .i64 ((l[i]'(by omega)).V))]), (rPt [(.int .i64 ((l[i]'(by omega)).T)), (.int .i64 ((l[i]'(by omega)).V))]), (rEq (.int .i64 ((l[i]'(by omega)).T))), (rEq (.bool (decide (((l[i]'(by omega)).T) < 0)))), (rEq (.bool (decide (((l[i]'(by omega)).T) < 0)))), (rEq v_l), (rEq (.int .i64 (i : Int))), (rPt [(.int .i64 ((l[i]'(by omega)).T)), (.int .i64 ((l[i]'(by omega)).V))]), (rPt [(.int .i64 ((l[i]'(by omega)).T)), (.int .i64 ((l[i]'(by omega)).V))]), (rEq (.int .i64 ((l[i]'(by omega)).T))), (rEq (.bool (decide (1099511627776 < ((l[i]'(by omega)).T))))), (rEq (.bool (decide (1099511627776 < ((l[i]'(by omega)).T))))), (rEq (.bool (decide (1099511627776 < ((l[i]'(by omega)).T))))), (rEq undef), (rEq undef), (rEq undef), (rEq undef), (rEq undef), (rEq undef), (rEq undef), (rEq undef), (rEq undef), (rEq undef), (rEq undef), (rEq undef), (rEq undef), (rEq undef), (rEq undef), (rEq undef), (rEq (.bool true))] (by kernel_rfl) rfl (by kernel_rfl) ⟨sEq, sEq, sPt, sPt, sEq, sEq, sEq, sEq, sEq, sPt, sPt, sEq, sEq, sEq, sEq, sEq, sEq, sEq, sEq, sEq, sEq, sEq, sEq, sEq, sEq, sEq, sEq, sEq, sEq, sEq, sEq, sEq, trivial⟩ ⟨?_, ?_, ?_, ?_, ?_, ?_, ?_, ?_, ?_, ?_, ?_, ?_, ?_, ?_, ?_, ?_, ?_, ?_, ?_, ?_, ?_, ?_, ?_, ?_, ?_, ?_, ?_, ?_, ?_, ?_, ?_, ?_, trivial⟩ ?_
        · rintro ρ139 w140 hj141 ⟨f0, _⟩
          have hst := hj141.2
          exact go_plain (op_move v_l (f0.trans q1_0) (kS hj141 rfl))
        · rintro ρ142 w143 hj144 ⟨f3, _⟩
          have hst := hj144.2
          exact go_plain (op_move (.int .i64 (i : Int)) (f3.trans q1_3) (kS hj144 rfl))
        · rintro ρ145 w146 hj147 ⟨f10, f11, _⟩
          have hst := hj147.2
          refine go_plain (op_indexAddrN (E := sampE) (xs := l) i Try.underlying22 Try.sizeOf32 f10 h_l f11 (by omega) (by omega) (fun a148 o149 p150 => ?_))
          exact kS hj147 ⟨_, _, rfl, (p150.below hst.below)⟩
        · rintro ρ151 w152 hj153 ⟨f12, _⟩
          have hst := hj153.2
          obtain ⟨a154, o155, e156, p157⟩ := f12
          exact go_plain (op_fieldAddr (s := 0) Try.underlying32 rfl rfl Try.sizeOf2 e156 (kS hj153 ⟨_, _, rfl, p157⟩))
        · rintro ρ158 w159 hj160 ⟨f13, _⟩
          have hst := hj160.2
          obtain ⟨a161, o162, e163, p164⟩ := f13
          exact go_plain (op_load1 (u := (.int .i64 ((l[i]'(by omega)).T))) Try.isAgg2 e163 p164 (kS hj160 rfl))
        · rintro ρ165 w166 hj167 ⟨f14, _⟩
          have hst := hj167.2
          exact go_plain (op_lss (k := .i64) (a := (l[i]'(by omega)).T) (b := 0) f14 rfl (kS hj167 rfl))
        · rintro ρ168 w169 hj170 ⟨f15, _⟩
          have hst := hj170.2
          exact go_plain (op_move (.bool (decide (((l[i]'(by omega)).T) < 0))) f15 (kS hj170 rfl))
        · rintro ρ171 w172 hj173 ⟨f0, f16, _⟩
          have hst := hj173.2
          exact go_yes 16 rfl (f16.trans (congrArg Value.bool b10)) (op_move v_l (f0.trans q1_0) (kS hj173 rfl))
        · rintro ρ174 w175 hj176 ⟨f3, f16, _⟩
          have hst := hj176.2
          exact go_yes 16 rfl (f16.trans (congrArg Value.bool b10)) (op_move (.int .i64 (i : Int)) (f3.trans q1_3) (kS hj176 rfl))
        · rintro ρ177 w178 hj179 ⟨f17, f18, f16, _⟩
          have hst := hj179.2
          refine go_yes 16 rfl (f16.trans (congrArg Value.bool b10)) (op_indexAddrN (E := sampE) (xs := l) i Try.underlying22 Try.sizeOf32 f17 h_l f18 (by omega) (by omega) (fun a180 o181 p182 => ?_))
          exact kS hj179 ⟨_, _, rfl, (p182.below hst.below)⟩
        · rintro ρ183 w184 hj185 ⟨f19, f16, _⟩
          have hst := hj185.2
          obtain ⟨a186, o187, e188, p189⟩ := f19
          exact go_yes 16 rfl (f16.trans (congrArg Value.bool b10)) (op_fieldAddr (s := 0) Try.underlying32 rfl rfl Try.sizeOf2 e188 (kS hj185 ⟨_, _, rfl, p189⟩))
        · rintro ρ190 w191 hj192 ⟨f20, f16, _⟩
          have hst := hj192.2
          obtain ⟨a193, o194, e195, p196⟩ := f20
          exact go_yes 16 rfl (f16.trans (congrArg Value.bool b10)) (op_load1 (u := (.int .i64 ((l[i]'(by omega)).T))) Try.isAgg2 e195 p196 (kS hj192 rfl))
        · rintro ρ197 w198 hj199 ⟨f21, f16, _⟩
          have hst := hj199.2
          exact go_yes 16 rfl (f16.trans (congrArg Value.bool b10)) (op_gtr (k := .i64) (a := (l[i]'(by omega)).T) (b := 1099511627776) f21 rfl (kS hj199 rfl))
        · rintro ρ200 w201 hj202 ⟨f16, f22, _⟩
          have hst := hj202.2
          exact go_plain (op_pick_f (.bool (decide (1099511627776 < ((l[i]'(by omega)).T)))) (f16.trans (congrArg Value.bool b10)) f22 (kS hj202 rfl))
        · rintro ρ203 w204 hj205 ⟨f23, _⟩
          have hst := hj205.2
          exact go_plain (op_move (.bool (decide (1099511627776 < ((l[i]'(by omega)).T)))) f23 (kS hj205 rfl))
        · rintro ρ206 w207 hj208 ⟨f3, f24, _⟩
          have hst := hj208.2
          exact go_no 24 rfl (f24.trans (congrArg Value.bool b131)) (kS hj208 rfl)
        · rintro ρ209 w210 hj211 ⟨f25, f24, _⟩
          have hst := hj211.2
          exact go_no 24 rfl (f24.trans (congrArg Value.bool b131)) (kS hj211 rfl)
        · rintro ρ212 w213 hj214 ⟨f26, f24, _⟩
          have hst := hj214.2
          exact go_no 24 rfl (f24.trans (congrArg Value.bool b131)) (kS hj214 rfl)
        · rintro ρ215 w216 hj217 ⟨f0, f27, _⟩
          have hst := hj217.2
          exact go_un 27 rfl f27 (kS hj217 rfl)
        · rintro ρ218 w219 hj220 ⟨f3, f27, _⟩
          have hst := hj220.2
          exact go_un 27 rfl f27 (kS hj220 rfl)
        · rintro ρ221 w222 hj223 ⟨f28, f29, f27, _⟩
          have hst := hj223.2
          exact go_un 27 rfl f27 (kS hj223 rfl)
        · rintro ρ224 w225 hj226 ⟨f30, f27, _⟩
          have hst := hj226.2
          exact go_un 27 rfl f27 (kS hj226 rfl)
        · rintro ρ227 w228 hj229 ⟨f31, f27, _⟩
          have hst := hj229.2
          exact go_un 27 rfl f27 (kS hj229 rfl)
        · rintro ρ230 w231 hj232 ⟨f0, f27, _⟩
          have hst := hj232.2
          exact go_un 27 rfl f27 (kS hj232 rfl)
        · rintro ρ233 w234 hj235 ⟨f3, f27, _⟩
          have hst := hj235.2
          exact go_un 27 rfl f27 (kS hj235 rfl)
        · rintro ρ236 w237 hj238 ⟨f34, f27, _⟩
          have hst := hj238.2
          exact go_un 27 rfl f27 (kS hj238 rfl)
        · rintro ρ239 w240 hj241 ⟨f33, f35, f27, _⟩
          have hst := hj241.2
          exact go_un 27 rfl f27 (kS hj241 rfl)
        · rintro ρ242 w243 hj244 ⟨f36, f27, _⟩
          have hst := hj244.2
          exact go_un 27 rfl f27 (kS hj244 rfl)
        · rintro ρ245 w246 hj247 ⟨f37, f27, _⟩
          have hst := hj247.2
          exact go_un 27 rfl f27 (kS hj247 rfl)
        · rintro ρ248 w249 hj250 ⟨f32, f38, f27, _⟩
          have hst := hj250.2
          exact go_un 27 rfl f27 (kS hj250 rfl)
        · rintro ρ251 w252 hj253 ⟨f27, f39, f24, _⟩
          have hst := hj253.2
          exact go_no 24 rfl (f24.trans (congrArg Value.bool b131)) (kS hj253 rfl)
        · rintro ρ254 w255 hj256 ⟨f24, f40, _⟩
          have hst := hj256.2
          exact go_plain (op_pick_t (.bool true) (f24.trans (congrArg Value.bool b131)) rfl (kS hj256 rfl))
        · intro ρ257 w258 hbw258 hst hRw258 hkw258
          have uw258_0 : ρ257 0 = v_l := (hkw258 0 rfl).trans q1_0
          have uw258_3 : ρ257 3 = (.int .i64 (i : Int)) := (hkw258 3 rfl).trans q1_3
          have uw258_4 : ρ257 4 = (.int .i64 (i : Int)) := (hkw258 4 rfl).trans rfl
          have uw258_5 : ρ257 5 = v_l := (hkw258 5 rfl).trans rfl
          have uw258_6 : ρ257 6 = (.int .i64 (l.length : Int)) := (hkw258 6 rfl).trans rfl
          have uw258_7 : ρ257 7 = (.bool (decide ((i : Int) < (l.length : Int)))) := (hkw258 7 rfl).trans rfl
          have uw258_41 : ρ257 41 = (.bool true) := hRw258 31 41 rfl
          refine then_n ?_
          refine cE_cond true uw258_41 (fun _ => ?_) (fun h => by cases h)
          refine cE_seq ?_
          refine cE_region rfl ?_
          refine s_cons (op_assign (.bool false) rfl ?_)
          refine s_nil ?_
          refine then_n ?_
          refine cE_ret ?_
          refine block_r (then_r (then_r (block_r (then_r ?_))))
          refine post_r _ (res1 (v := (.bool false)) rfl) ?_
          exact ⟨(retv1 (congrArg Value.bool (show false = (risingA l) from by first | exact (hI.trans (rr_no (by omega) (by first | (left; omega) | (right; left; omega) | (right; right; exact ⟨by omega, (by rw [lastT_pred (by omega) (by omega)]; assumption)⟩)) hlt)).symm | exact (hI.trans (rises_end (by omega))).symm))), hst.bare⟩
      · have c259 : ¬ (1099511627776 < ((l[i]'(by omega)).T)) := of_decide_eq_false b131
        rcases Bool.eq_false_or_eq_true (decide (0 < (i : Int))) with b266 | b266
        · have c267 : 0 < (i : Int) := of_decide_eq_true b266
          refine cE_regionL hst [[(0, none)], [(3, none)], [(10, some 0), (11, some 1)], [(12, some 2)], [(13, some 3)], [(14, some 4)], [(15, some 5)], [(0, none), (16, some 6)], [(3, none), (16, some 6)], [(17, some 7), (18, some 8), (16, some 6)], [(19, some 9), (16, some 6)], [(20, some 10), (16, some 6)], [(21, some 11), (16, some 6)], [(16, some 6), (22, some 12)], [(23, some 13)], [(3, none), (24, some 14)], [(25, some 15), (24, some 14)], [(26, some 16), (24, some 14)], [(0, none), (27, some 17)], [(3, none), (27, some 17)], [(28, some 18), (29, some 19), (27, some 17)], [(30, some 20), (27, some 17)], [(31, some 21), (27, some 17)], [(0, none), (27, some 17)], [(3, none), (27, some 17)], [(34, some 24), (27, some 17)], [(33, some 23), (35, some 25), (27, some 17)], [(36, some 26), (27, some 17)], [(37, some 27), (27, some 17)], [(32, some 22), (38, some 28), (27, some 17)], [(27, some 17), (39, some 29), (24, some 14)], [(24, some 14), (40, some 30)]] [(rEq v_l), (rEq (.int .i64 (i : Int))), (rPt [(.int .i64 ((l[i]'(by omega)).T)), (.int .i64 ((l[i]'(by omega)).V))]), (rPt [(.int .i64 ((l[i]'(by omega)).T)), (.int .i64 ((l[i]'(by omega)).V))]), (rEq (.int .i64 ((l[i]'(by omega)).T))), (rEq (.bool (decide (((l[i]'(by omega)).T) < 0)))), (rEq (.bool (decide (((l[i]'(by omega)).T) < 0)))), (rEq v_l), (rEq (.int .i64 (i : Int))), (rPt [(.int .i64 ((l[i]'(by omega)).T)), (.int .i64 ((l[i]'(by omega)).V))]), (rPt [(.int .i64 ((l[i]'(by omega)).T)), (.int .i64 ((l[i]'(by omega)).V))]), (rEq (.int .i64 ((l[i]'(by omega)).T))), (rEq (.bool (decide (1099511627776 < ((l[i]'(by omega)).T))))), (rEq (.bool (decide (1099511627776 < ((l[i]'(by omega)).T))))), (rEq (.bool (decide (1099511627776 < ((l[i]'(by omega)).T))))), (rEq (.int .i64 (i : Int))), (rEq (.bool (decide (0 < (i : Int))))), (rEq (.bool (decide (0 < (i : Int))))), (rEq v_l), (rEq (.int .i64 (i : Int))), (rPt [(.int .i64 ((l[i]'(by omega)).T)), (.int .i64 ((l[i]'(by omega)).V))]), (rPt [(.int .i64 ((l[i]'(by omega)).T)), (.int .i64 ((l[i]'(by omega)).V))]), (rEq (.int .i64 ((l[i]'(by omega)).T))), (rEq v_l), (rEq (.int .i64 (i : Int))), (rEq (.int .i64 ((i : Int) - 1))), (rPt [(.int .i64 ((l[(i - 1)]'(by omega)).T)), (.int .i64 ((l[(i - 1)]'(by omega)).V))]), (rPt [(.int .i64 ((l[(i - 1)]'(by omega)).T)), (.int .i64 ((l[(i - 1)]'(by omega)).V))]), (rEq (.int .i64 ((l[(i - 1)]'(by omega)).T))), (rEq (.bool (decide (((l[i]'(by omega)).T) ≤ ((l[(i - 1)]'(by omega)).T))))), (rEq (.bool (decide (((l[i]'(by omega)).T) ≤ ((l[(i - 1)]'(by omega)).T))))), (rEq (.bool (decide (((l[i]'(by omega)).T) ≤ ((l[(i - 1)]'(by omega)).T)))))] (by kernel_rfl) rfl (by kernel_rfl) ⟨sEq, sEq, sPt, sPt, sEq, sEq, sEq, sEq, sEq, sPt, sPt, sEq, sEq, sEq, sEq, sEq, sEq, sEq, sEq, sEq, sPt, sPt, sEq, sEq, sEq, sEq, sPt, sPt, sEq, sEq, sEq, sEq, trivial⟩ ⟨?_, ?_, ?_, ?_, ?_, ?_, ?_, ?_, ?_, ?_, ?_, ?_, ?_, ?_, ?_, ?_, ?_, ?_, ?_, ?_, ?_, ?_, ?_, ?_, ?_, ?_, ?_, ?_, ?_, ?_, ?_, ?_, trivial⟩ ?_
          · rintro ρ280 w281 hj282 ⟨f0, _⟩
            have hst := hj282.2
            exact go_plain (op_move v_l (f0.trans q1_0) (kS hj282 rfl))
          · rintro ρ283 w284 hj285 ⟨f3, _⟩
            have hst := hj285.2
            exact go_plain (op_move (.int .i64 (i : Int)) (f3.trans q1_3) (kS hj285 rfl))
          · rintro ρ286 w287 hj288 ⟨f10, f11, _⟩
            have hst := hj288.2
            refine go_plain (op_indexAddrN (E := sampE) (xs := l) i Try.underlying22 Try.sizeOf32 f10 h_l f11 (by omega) (by omega) (fun a289 o290 p291 => ?_))
            exact kS hj288 ⟨_, _, rfl, (p291.below hst.below)⟩
          · rintro ρ292 w293 hj294 ⟨f12, _⟩
            have hst := hj294.2
            obtain ⟨a295, o296, e297, p298⟩ := f12
            exact go_plain (op_fieldAddr (s := 0) Try.underlying32 rfl rfl Try.sizeOf2 e297 (kS hj294 ⟨_, _, rfl, p298⟩))
          · rintro ρ299 w300 hj301 ⟨f13, _⟩
            have hst := hj301.2
            obtain ⟨a302, o303, e304, p305⟩ := f13
            exact go_plain (op_load1 (u := (.int .i64 ((l[i]'(by omega)).T))) Try.isAgg2 e304 p305 (kS hj301 rfl))
          · rintro ρ306 w307 hj308 ⟨f14, _⟩
            have hst := hj308.2
            exact go_plain (op_lss (k := .i64) (a := (l[i]'(by omega)).T) (b := 0) f14 rfl (kS hj308 rfl))
          · rintro ρ309 w310 hj311 ⟨f15, _⟩
            have hst := hj311.2
            exact go_plain (op_move (.bool (decide (((l[i]'(by omega)).T) < 0))) f15 (kS hj311 rfl))
          · rintro ρ312 w313 hj314 ⟨f0, f16, _⟩
            have hst := hj314.2
            exact go_yes 16 rfl (f16.trans (congrArg Value.bool b10)) (op_move v_l (f0.trans q1_0) (kS hj314 rfl))
          · rintro ρ315 w316 hj317 ⟨f3, f16, _⟩
            have hst := hj317.2
            exact go_yes 16 rfl (f16.trans (congrArg Value.bool b10)) (op_move (.int .i64 (i : Int)) (f3.trans q1_3) (kS hj317 rfl))
          · rintro ρ318 w319 hj320 ⟨f17, f18, f16, _⟩
            have hst := hj320.2
            refine go_yes 16 rfl (f16.trans (congrArg Value.bool b10)) (op_indexAddrN (E := sampE) (xs := l) i Try.underlying22 Try.sizeOf32 f17 h_l f18 (by omega) (by omega) (fun a321 o322 p323 => ?_))
            exact kS hj320 ⟨_, _, rfl, (p323.below hst.below)⟩
          · rintro ρ324 w325 hj326 ⟨f19, f16, _⟩
            have hst := hj326.2
            obtain ⟨a327, o328, e329, p330⟩ := f19
            exact go_yes 16 rfl (f16.trans (congrArg Value.bool b10)) (op_fieldAddr (s := 0) Try.underlying32 rfl rfl Try.sizeOf2 e329 (kS hj326 ⟨_, _, rfl, p330⟩))
          · rintro ρ331 w332 hj333 ⟨f20, f16, _⟩
            have hst := hj333.2
            obtain ⟨a334, o335, e336, p337⟩ := f20
            exact go_yes 16 rfl (f16.trans (congrArg Value.bool b10)) (op_load1 (u := (.int .i64 ((l[i]'(by omega)).T))) Try.isAgg2 e336 p337 (kS hj333 rfl))
          · rintro ρ338 w339 hj340 ⟨f21, f16, _⟩
            have hst := hj340.2
            exact go_yes 16 rfl (f16.trans (congrArg Value.bool b10)) (op_gtr (k := .i64) (a := (l[i]'(by omega)).T) (b := 1099511627776) f21 rfl (kS hj340 rfl))
          · rintro ρ341 w342 hj343 ⟨f16, f22, _⟩
            have hst := hj343.2
            exact go_plain (op_pick_f (.bool (decide (1099511627776 < ((l[i]'(by omega)).T)))) (f16.trans (congrArg Value.bool b10)) f22 (kS hj343 rfl))
          · rintro ρ344 w345 hj346 ⟨f23, _⟩
            have hst := hj346.2
            exact go_plain (op_move (.bool (decide (1099511627776 < ((l[i]'(by omega)).T)))) f23 (kS hj346 rfl))
          · rintro ρ347 w348 hj349 ⟨f3, f24, _⟩
            have hst := hj349.2
            exact go_yes 24 rfl (f24.trans (congrArg Value.bool b131)) (op_move (.int .i64 (i : Int)) (f3.trans q1_3) (kS hj349 rfl))
          · rintro ρ350 w351 hj352 ⟨f25, f24, _⟩
            have hst := hj352.2
            exact go_yes 24 rfl (f24.trans (congrArg Value.bool b131)) (op_gtr (k := .i64) (a := (i : Int)) (b := 0) f25 rfl (kS hj352 rfl))
          · rintro ρ353 w354 hj355 ⟨f26, f24, _⟩
            have hst := hj355.2
            exact go_yes 24 rfl (f24.trans (congrArg Value.bool b131)) (op_move (.bool (decide (0 < (i : Int)))) f26 (kS hj355 rfl))
          · rintro ρ356 w357 hj358 ⟨f0, f27, _⟩
            have hst := hj358.2
            exact go_yes 27 rfl (f27.trans (congrArg Value.bool b266)) (op_move v_l (f0.trans q1_0) (kS hj358 rfl))
          · rintro ρ359 w360 hj361 ⟨f3, f27, _⟩
            have hst := hj361.2
            exact go_yes 27 rfl (f27.trans (congrArg Value.bool b266)) (op_move (.int .i64 (i : Int)) (f3.trans q1_3) (kS hj361 rfl))
          · rintro ρ362 w363 hj364 ⟨f28, f29, f27, _⟩
            have hst := hj364.2
            refine go_yes 27 rfl (f27.trans (congrArg Value.bool b266)) (op_indexAddrN (E := sampE) (xs := l) i Try.underlying22 Try.sizeOf32 f28 h_l f29 (by omega) (by omega) (fun a365 o366 p367 => ?_))
            exact kS hj364 ⟨_, _, rfl, (p367.below hst.below)⟩
          · rintro ρ368 w369 hj370 ⟨f30, f27, _⟩
            have hst := hj370.2
            obtain ⟨a371, o372, e373, p374⟩ := f30
            exact go_yes 27 rfl (f27.trans (congrArg Value.bool b266)) (op_fieldAddr (s := 0) Try.underlying32 rfl rfl Try.sizeOf2 e373 (kS hj370 ⟨_, _, rfl, p374⟩))
          · rintro ρ375 w376 hj377 ⟨f31, f27, _⟩
            have hst := hj377.2
            obtain ⟨a378, o379, e380, p381⟩ := f31
            exact go_yes 27 rfl (f27.trans (congrArg Value.bool b266)) (op_load1 (u := (.int .i64 ((l[i]'(by omega)).T))) Try.isAgg2 e380 p381 (kS hj377 rfl))
          · rintro ρ382 w383 hj384 ⟨f0, f27, _⟩
            have hst := hj384.2
            exact go_yes 27 rfl (f27.trans (congrArg Value.bool b266)) (op_move v_l (f0.trans q1_0) (kS hj384 rfl))
          · rintro ρ385 w386 hj387 ⟨f3, f27, _⟩
            have hst := hj387.2
            exact go_yes 27 rfl (f27.trans (congrArg Value.bool b266)) (op_move (.int .i64 (i : Int)) (f3.trans q1_3) (kS hj387 rfl))
          · rintro ρ388 w389 hj390 ⟨f34, f27, _⟩
            have hst := hj390.2
            exact go_yes 27 rfl (f27.trans (congrArg Value.bool b266)) (op_sub (k := .i64) (a := (i : Int)) (b := 1) ((i : Int) - 1) f34 rfl (xi64 (by omega) (by omega)) (kS hj390 rfl))
          · rintro ρ391 w392 hj393 ⟨f33, f35, f27, _⟩
            have hst := hj393.2
            refine go_yes 27 rfl (f27.trans (congrArg Value.bool b266)) (op_indexAddrN (E := sampE) (xs := l) (i - 1) Try.underlying22 Try.sizeOf32 f33 h_l f35 (by omega) (by omega) (fun a394 o395 p396 => ?_))
            exact kS hj393 ⟨_, _, rfl, (p396.below hst.below)⟩
          · rintro ρ397 w398 hj399 ⟨f36, f27, _⟩
            have hst := hj399.2
            obtain ⟨a400, o401, e402, p403⟩ := f36
            exact go_yes 27 rfl (f27.trans (congrArg Value.bool b266)) (op_fieldAddr (s := 0) Try.underlying32 rfl rfl Try.sizeOf2 e402 (kS hj399 ⟨_, _, rfl, p403⟩))
          · rintro ρ404 w405 hj406 ⟨f37, f27, _⟩
            have hst := hj406.2
            obtain ⟨a407, o408, e409, p410⟩ := f37
            exact go_yes 27 rfl (f27.trans (congrArg Value.bool b266)) (op_load1 (u := (.int .i64 ((l[(i - 1)]'(by omega)).T))) Try.isAgg2 e409 p410 (kS hj406 rfl))
          · rintro ρ411 w412 hj413 ⟨f32, f38, f27, _⟩
            have hst := hj413.2
            exact go_yes 27 rfl (f27.trans (congrArg Value.bool b266)) (op_leq (k := .i64) (a := (l[i]'(by omega)).T) (b := (l[(i - 1)]'(by omega)).T) f32 f38 (kS hj413 rfl))
          · rintro ρ414 w415 hj416 ⟨f27, f39, f24, _⟩
            have hst := hj416.2
            exact go_yes 24 rfl (f24.trans (congrArg Value.bool b131)) (op_pick_t (.bool (decide (((l[i]'(by omega)).T) ≤ ((l[(i - 1)]'(by omega)).T)))) (f27.trans (congrArg Value.bool b266)) f39 (kS hj416 rfl))
          · rintro ρ417 w418 hj419 ⟨f24, f40, _⟩
            have hst := hj419.2
            exact go_plain (op_pick_f (.bool (decide (((l[i]'(by omega)).T) ≤ ((l[(i - 1)]'(by omega)).T)))) (f24.trans (congrArg Value.bool b131)) f40 (kS hj419 rfl))
          · intro ρ420 w421 hbw421 hst hRw421 hkw421
            have uw421_0 : ρ420 0 = v_l := (hkw421 0 rfl).trans q1_0
            have uw421_3 : ρ420 3 = (.int .i64 (i : Int)) := (hkw421 3 rfl).trans q1_3
            have uw421_4 : ρ420 4 = (.int .i64 (i : Int)) := (hkw421 4 rfl).trans rfl
            have uw421_5 : ρ420 5 = v_l := (hkw421 5 rfl).trans rfl
            have uw421_6 : ρ420 6 = (.int .i64 (l.length : Int)) := (hkw421 6 rfl).trans rfl
            have uw421_7 : ρ420 7 = (.bool (decide ((i : Int) < (l.length : Int)))) := (hkw421 7 rfl).trans rfl
            have uw421_41 : ρ420 41 = (.bool (decide (((l[i]'(by omega)).T) ≤ ((l[(i - 1)]'(by omega)).T)))) := hRw421 31 41 rfl
            refine then_n ?_
            rcases Bool.eq_false_or_eq_true (decide (((l[i]'(by omega)).T) ≤ ((l[(i - 1)]'(by omega)).T))) with b422 | b422
            · have c423 : ((l[i]'(by omega)).T) ≤ ((l[(i - 1)]'(by omega)).T) := of_decide_eq_true b422
              refine cE_cond true (uw421_41.trans (congrArg Value.bool b422)) (fun _ => ?_) (fun h => by cases h)
              refine cE_seq ?_
              refine cE_region rfl ?_
              refine s_cons (op_assign (.bool false) rfl ?_)
              refine s_nil ?_
              refine then_n ?_
              refine cE_ret ?_
              refine block_r (then_r (then_r (block_r (then_r ?_))))
              refine post_r _ (res1 (v := (.bool false)) rfl) ?_
              exact ⟨(retv1 (congrArg Value.bool (show false = (risingA l) from by first | exact (hI.trans (rr_no (by omega) (by first | (left; omega) | (right; left; omega) | (right; right; exact ⟨by omega, (by rw [lastT_pred (by omega) (by omega)]; assumption)⟩)) hlt)).symm | exact (hI.trans (rises_end (by omega))).symm))), hst.bare⟩
            · have c424 : ¬ (((l[i]'(by omega)).T) ≤ ((l[(i - 1)]'(by omega)).T)) := of_decide_eq_false b422
              refine cE_cond false (uw421_41.trans (congrArg Value.bool b422)) (fun h => by cases h) (fun _ => ?_)
              refine cE_skip ?_
              refine block_n (then_n ?_)
              refine cE_region rfl ?_
              refine s_cons (op_move (.int .i64 (i : Int)) uw421_3 ?_)
              refine s_cons (op_add (k := .i64) (a := (i : Int)) (b := 1) ((i : Int) + 1) rfl rfl (xi64 (by omega) (by omega)) ?_)
              refine s_cons (op_assign (.int .i64 ((i : Int) + 1)) rfl ?_)
              refine s_nil ?_
              refine then_n ?_
              exact ⟨_, ⟨(i + 1), rfl, uw421_0, (congrArg (Value.int .i64) (show ((i : Int) + 1) = _ from by omega)), hst, (by omega), (by first | exact (by decide : (-1 : Int) ≤ -1) | (rw [lastT_succ (by omega)]; omega)), (by first | rfl | exact hI.trans (rr_go (by omega) (by omega) (by omega) (by first | (left; omega) | (right; rw [lastT_pred (by omega) (by omega)]; assumption))))⟩, (by simp only [id]; omega)⟩
        · have c425 : ¬ (0 < (i : Int)) := of_decide_eq_false b266
          refine cE_regionL hst [[(0, none)], [(3, none)], [(10, some 0), (11, some 1)], [(12, some 2)], [(13, some 3)], [(14, some 4)], [(15, some 5)], [(0, none), (16, some 6)], [(3, none), (16, some 6)], [(17, some 7), (18, some 8), (16, some 6)], [(19, some 9), (16, some 6)], [(20, some 10), (16, some 6)], [(21, some 11), (16, some 6)], [(16, some 6), (22, some 12)], [(23, some 13)], [(3, none), (24, some 14)], [(25, some 15), (24, some 14)], [(26, some 16), (24, some 14)], [(0, none), (27, some 17)], [(3, none), (27, some 17)], [(28, some 18), (29, some 19), (27, some 17)], [(30, some 20), (27, some 17)], [(31, some 21), (27, some 17)], [(0, none), (27, some 17)], [(3, none), (27, some 17)], [(34, some 24), (27, some 17)], [(33, some 23), (35, some 25), (27, some 17)], [(36, some 26), (27, some 17)], [(37, some 27), (27, some 17)], [(32, some 22), (38, some 28), (27, some 17)], [(27, some 17), (39, some 29), (24, some 14)], [(24, some 14), (40, some 30)]] [(rEq v_l), (rEq (.int .i64 (i : Int))), (rPt [(.int .i64 ((l[i]'(by omega)).T)), (.int .i64 ((l[i]'(by omega)).V))]), (rPt [(.int .i64 ((l[i]'(by omega)).T)), (.int .i64 ((l[i]'(by omega)).V))]), (rEq (.int .i64 ((l[i]'(by omega)).T))), (rEq (.bool (decide (((l[i]'(by omega)).T) < 0)))), (rEq (.bool (decide (((l[i]'(by omega)).T) < 0)))), (rEq v_l), (rEq (.int .i64 (i : Int))), (rPt [(.int .i64 ((l[i]'(by omega)).T)), (.int .i64 ((l[i]'(by omega)).V))]), (rPt [(.int .i64 ((l[i]'(by omega)).T)), (.int .i64 ((l[i]'(by omega)).V))]), (rEq (.int .i64 ((l[i]'(by omega)).T))), (rEq (.bool (decide (1099511627776 < ((l[i]'(by omega)).T))))), (rEq (.bool (decide (1099511627776 < ((l[i]'(by omega)).T))))), (rEq (.bool (decide (1099511627776 < ((l[i]'(by omega)).T))))), (rEq (.int .i64 (i : Int))), (rEq (.bool (decide (0 < (i : Int))))), (rEq (.bool (decide (0 < (i : Int))))), (rEq undef), (rEq undef), (rEq undef), (rEq undef), (rEq undef), (rEq undef), (rEq undef), (rEq undef), (rEq undef), (rEq undef), (rEq undef), (rEq undef), (rEq (.bool false)), (rEq (.bool false))] (by kernel_rfl) rfl (by kernel_rfl) ⟨sEq, sEq, sPt, sPt, sEq, sEq, sEq, sEq, sEq, sPt, sPt, sEq, sEq, sEq, sEq, sEq, sEq, sEq, sEq, sEq, sEq, sEq, sEq, sEq, sEq, sEq, sEq, sEq, sEq, sEq, sEq, sEq, trivial⟩ ⟨?_, ?_, ?_, ?_, ?_, ?_, ?_, ?_, ?_, ?_, ?_, ?_, ?_, ?_, ?_, ?_, ?_, ?_, ?_, ?_, ?_, ?_, ?_, ?_, ?_, ?_, ?_, ?_, ?_, ?_, ?_, ?_, trivial⟩ ?_
          · rintro ρ432 w433 hj434 ⟨f0, _⟩
            have hst := hj434.2
            exact go_plain (op_move v_l (f0.trans q1_0) (kS hj434 rfl))
          · rintro ρ435 w436 hj437 ⟨f3, _⟩
            have hst := hj437.2
            exact go_plain (op_move (.int .i64 (i : Int)) (f3.trans q1_3) (kS hj437 rfl))
          · rintro ρ438 w439 hj440 ⟨f10, f11, _⟩
            have hst := hj440.2
            refine go_plain (op_indexAddrN (E := sampE) (xs := l) i Try.underlying22 Try.sizeOf32 f10 h_l f11 (by omega) (by omega) (fun a441 o442 p443 => ?_))
            exact kS hj440 ⟨_, _, rfl, (p443.below hst.below)⟩
          · rintro ρ444 w445 hj446 ⟨f12, _⟩
            have hst := hj446.2
            obtain ⟨a447, o448, e449, p450⟩ := f12
            exact go_plain (op_fieldAddr (s := 0) Try.underlying32 rfl rfl Try.sizeOf2 e449 (kS hj446 ⟨_, _, rfl, p450⟩))
          · rintro ρ451 w452 hj453 ⟨f13, _⟩
            have hst := hj453.2
            obtain ⟨a454, o455, e456, p457⟩ := f13
            exact go_plain (op_load1 (u := (.int .i64 ((l[i]'(by omega)).T))) Try.isAgg2 e456 p457 (kS hj453 rfl))
          · rintro ρ458 w459 hj460 ⟨f14, _⟩
            have hst := hj460.2
            exact go_plain (op_lss (k := .i64) (a := (l[i]'(by omega)).T) (b := 0) f14 rfl (kS hj460 rfl))
          · rintro ρ461 w462 hj463 ⟨f15, _⟩
            have hst := hj463.2
            exact go_plain (op_move (.bool (decide (((l[i]'(by omega)).T) < 0))) f15 (kS hj463 rfl))
          · rintro ρ464 w465 hj466 ⟨f0, f16, _⟩
            have hst := hj466.2
            exact go_yes 16 rfl (f16.trans (congrArg Value.bool b10)) (op_move v_l (f0.trans q1_0) (kS hj466 rfl))
          · rintro ρ467 w468 hj469 ⟨f3, f16, _⟩
            have hst := hj469.2
            exact go_yes 16 rfl (f16.trans (congrArg Value.bool b10)) (op_move (.int .i64 (i : Int)) (f3.trans q1_3) (kS hj469 rfl))
          · rintro ρ470 w471 hj472 ⟨f17, f18, f16, _⟩
            have hst := hj472.2
            refine go_yes 16 rfl (f16.trans (congrArg Value.bool b10)) (op_indexAddrN (E := sampE) (xs := l) i Try.underlying22 Try.sizeOf32 f17 h_l f18 (by omega) (by omega) (fun a473 o474 p475 => ?_))
            exact kS hj472 ⟨_, _, rfl, (p475.below hst.below)⟩
          · rintro ρ476 w477 hj478 ⟨f19, f16, _⟩
            have hst := hj478.2
            obtain ⟨a479, o480, e481, p482⟩ := f19
            exact go_yes 16 rfl (f16.trans (congrArg Value.bool b10)) (op_fieldAddr (s := 0) Try.underlying32 rfl rfl Try.sizeOf2 e481 (kS hj478 ⟨_, _, rfl, p482⟩))
          · rintro ρ483 w484 hj485 ⟨f20, f16, _⟩
            have hst := hj485.2
            obtain ⟨a486, o487, e488, p489⟩ := f20
            exact go_yes 16 rfl (f16.trans (congrArg Value.bool b10)) (op_load1 (u := (.int .i64 ((l[i]'(by omega)).T))) Try.isAgg2 e488 p489 (kS hj485 rfl))
          · rintro ρ490 w491 hj492 ⟨f21, f16, _⟩
            have hst := hj492.2
            exact go_yes 16 rfl (f16.trans (congrArg Value.bool b10)) (op_gtr (k := .i64) (a := (l[i]'(by omega)).T) (b := 1099511627776) f21 rfl (kS hj492 rfl))
          · rintro ρ493 w494 hj495 ⟨f16, f22, _⟩
            have hst := hj495.2
            exact go_plain (op_pick_f (.bool (decide (1099511627776 < ((l[i]'(by omega)).T)))) (f16.trans (congrArg Value.bool b10)) f22 (kS hj495 rfl))
          · rintro ρ496 w497 hj498 ⟨f23, _⟩
            have hst := hj498.2
            exact go_plain (op_move (.bool (decide (1099511627776 < ((l[i]'(by omega)).T)))) f23 (kS hj498 rfl))
          · rintro ρ499 w500 hj501 ⟨f3, f24, _⟩
            have hst := hj501.2
            exact go_yes 24 rfl (f24.trans (congrArg Value.bool b131)) (op_move (.int .i64 (i : Int)) (f3.trans q1_3) (kS hj501 rfl))
          · rintro ρ502 w503 hj504 ⟨f25, f24, _⟩
            have hst := hj504.2
            exact go_yes 24 rfl (f24.trans (congrArg Value.bool b131)) (op_gtr (k := .i64) (a := (i : Int)) (b := 0) f25 rfl (kS hj504 rfl))
          · rintro ρ505 w506 hj507 ⟨f26, f24, _⟩
            have hst := hj507.2
            exact go_yes 24 rfl (f24.trans (congrArg Value.bool b131)) (op_move (.bool (decide (0 < (i : Int)))) f26 (kS hj507 rfl))
          · rintro ρ508 w509 hj510 ⟨f0, f27, _⟩
            have hst := hj510.2
            exact go_no 27 rfl (f27.trans (congrArg Value.bool b266)) (kS hj510 rfl)
          · rintro ρ511 w512 hj513 ⟨f3, f27, _⟩
            have hst := hj513.2
            exact go_no 27 rfl (f27.trans (congrArg Value.bool b266)) (kS hj513 rfl)
          · rintro ρ514 w515 hj516 ⟨f28, f29, f27, _⟩
            have hst := hj516.2
            exact go_no 27 rfl (f27.trans (congrArg Value.bool b266)) (kS hj516 rfl)
          · rintro ρ517 w518 hj519 ⟨f30, f27, _⟩
            have hst := hj519.2
            exact go_no 27 rfl (f27.trans (congrArg Value.bool b266)) (kS hj519 rfl)
          · rintro ρ520 w521 hj522 ⟨f31, f27, _⟩
            have hst := hj522.2
            exact go_no 27 rfl (f27.trans (congrArg Value.bool b266)) (kS hj522 rfl)
          · rintro ρ523 w524 hj525 ⟨f0, f27, _⟩
            have hst := hj525.2
            exact go_no 27 rfl (f27.trans (congrArg Value.bool b266)) (kS hj525 rfl)
          · rintro ρ526 w527 hj528 ⟨f3, f27, _⟩
            have hst := hj528.2
            exact go_no 27 rfl (f27.trans (congrArg Value.bool b266)) (kS hj528 rfl)
          · rintro ρ529 w530 hj531 ⟨f34, f27, _⟩
            have hst := hj531.2
            exact go_no 27 rfl (f27.trans (congrArg Value.bool b266)) (kS hj531 rfl)
          · rintro ρ532 w533 hj534 ⟨f33, f35, f27, _⟩
            have hst := hj534.2
            exact go_no 27 rfl (f27.trans (congrArg Value.bool b266)) (kS hj534 rfl)
          · rintro ρ535 w536 hj537 ⟨f36, f27, _⟩
            have hst := hj537.2
            exact go_no 27 rfl (f27.trans (congrArg Value.bool b266)) (kS hj537 rfl)
          · rintro ρ538 w539 hj540 ⟨f37, f27, _⟩
            have hst := hj540.2
            exact go_no 27 rfl (f27.trans (congrArg Value.bool b266)) (kS hj540 rfl)
          · rintro ρ541 w542 hj543 ⟨f32, f38, f27, _⟩
            have hst := hj543.2
            exact go_no 27 rfl (f27.trans (congrArg Value.bool b266)) (kS hj543 rfl)
          · rintro ρ544 w545 hj546 ⟨f27, f39, f24, _⟩
            have hst := hj546.2
            exact go_yes 24 rfl (f24.trans (congrArg Value.bool b131)) (op_pick_f (.bool false) (f27.trans (congrArg Value.bool b266)) rfl (kS hj546 rfl))
          · rintro ρ547 w548 hj549 ⟨f24, f40, _⟩
            have hst := hj549.2
            exact go_plain (op_pick_f (.bool false) (f24.trans (congrArg Value.bool b131)) f40 (kS hj549 rfl))
          · intro ρ550 w551 hbw551 hst hRw551 hkw551
            have uw551_0 : ρ550 0 = v_l := (hkw551 0 rfl).trans q1_0
            have uw551_3 : ρ550 3 = (.int .i64 (i : Int)) := (hkw551 3 rfl).trans q1_3
            have uw551_4 : ρ550 4 = (.int .i64 (i : Int)) := (hkw551 4 rfl).trans rfl
            have uw551_5 : ρ550 5 = v_l := (hkw551 5 rfl).trans rfl
            have uw551_6 : ρ550 6 = (.int .i64 (l.length : Int)) := (hkw551 6 rfl).trans rfl
            have uw551_7 : ρ550 7 = (.bool (decide ((i : Int) < (l.length : Int)))) := (hkw551 7 rfl).trans rfl
            have uw551_41 : ρ550 41 = (.bool false) := hRw551 31 41 rfl
            refine then_n ?_
            refine cE_cond false uw551_41 (fun h => by cases h) (fun _ => ?_)
            refine cE_skip ?_
            refine block_n (then_n ?_)
            refine cE_region rfl ?_
            refine s_cons (op_move (.int .i64 (i : Int)) uw551_3 ?_)
            refine s_cons (op_add (k := .i64) (a := (i : Int)) (b := 1) ((i : Int) + 1) rfl rfl (xi64 (by omega) (by omega)) ?_)
            refine s_cons (op_assign (.int .i64 ((i : Int) + 1)) rfl ?_)
            refine s_nil ?_
            refine then_n ?_
            exact ⟨_, ⟨(i + 1), rfl, uw551_0, (congrArg (Value.int .i64) (show ((i : Int) + 1) = _ from by omega)), hst, (by omega), (by first | exact (by decide : (-1 : Int) ≤ -1) | (rw [lastT_succ (by omega)]; omega)), (by first | rfl | exact hI.trans (rr_go (by omega) (by omega) (by omega) (by first | (left; omega) | (right; rw [lastT_pred (by omega) (by omega)]; assumption))))⟩, (by simp only [id]; omega)⟩
  · have c552 : ¬ ((i : Int) < (l.length : Int)) := of_decide_eq_false b5
    refine cE_cond false (congrArg Value.bool b5) (fun h => by cases h) (fun _ => ?_)
    refine cE_exit ?_
    refine then_x (then_x (block_hit (then_n ?_)))
    refine cE_seq ?_
    refine cE_region rfl ?_
    refine s_cons (op_assign (.bool true) rfl ?_)
    refine s_nil ?_
    refine then_n ?_
    refine cE_ret ?_
    refine post_r _ (res1 (v := (.bool true)) rfl) ?_
    exact ⟨(retv1 (congrArg Value.bool (show true = (risingA l) from by first | exact (hI.trans (rr_no (by omega) (by first | (left; omega) | (right; left; omega) | (right; right; exact ⟨by omega, (by rw [lastT_pred (by omega) (by omega)]; assumption)⟩)) hlt)).symm | exact (hI.trans (rises_end (by omega))).symm))), hst.bare⟩

end Go.Proofs.Ytffnhcioponbbaa
