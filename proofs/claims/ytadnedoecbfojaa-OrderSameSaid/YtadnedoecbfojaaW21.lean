/- api.Info] -/
import Derived.Test.YtadnedoecbfojaaOR
import Derived.Test.YtadnedoecbfojaaW20
namespace Go.Proofs.Ytadnedoecbfojaa
open Go.RowKit

set_option maxHeartbeats 4000000 in
theorem c_swapRange {w0 w : World} {L : List Item} (v_xs : Value) (xs : List Info) (a : Int) (b : Int) (n : Int) (an : Nat) (bn : Nat) (nn : Nat) (ha : a = (an : Int)) (hb : b = (bn : Int)) (hn : n = (nn : Int)) (hab : an + nn ≤ bn) (hbl : bn + nn ≤ xs.length) (hxl : xs.length ≤ 1000000000) (hst : St w0 w (rowT 34 infoE v_xs xs :: L)) :
    Calls Try.prog 32 #[v_xs, (.int .i64 a), (.int .i64 b), (.int .i64 n), (.func (.func 24) #[] #[])] w fun e w' => ∃ (qs : List Info), e = .returned (.tuple #[]) ∧ St w0 w' (rowT 34 infoE v_xs qs :: L) ∧ SwR xs qs an bn nn ∧ Turned xs qs an (bn + nn) := by
  refine calls_E (n := 38) (ts := []) Try.func32 rfl rfl rfl (by simp) ?_
  refine cE_seq ?_
  refine cE_region rfl ?_
  refine s_cons (op_assign (.int .i64 0) rfl ?_)
  refine s_nil ?_
  refine then_n ?_
  refine cE_block ?_
  refine cE_loop (fun (m : Nat) (ρ : Env) (w : World) => ∃ (ys : List Info) (i : Nat), m = nn - i ∧ ρ 1 = (.int .i64 a) ∧ ρ 2 = (.int .i64 b) ∧ ρ 3 = (.int .i64 n) ∧ ρ 4 = (.func (.func 24) #[] #[]) ∧ ρ 0 = v_xs ∧ ρ 10 = (.int .i64 (i : Int)) ∧ St w0 w (rowT 34 infoE v_xs ys :: L) ∧ (i ≤ nn) ∧ (Turned xs ys an (bn + nn)) ∧ (SwR xs ys an bn i)) id _ ⟨xs, 0, rfl, rfl, rfl, rfl, rfl, rfl, (congrArg (Value.int .i64) (show 0 = _ from by omega)), hst, (by omega), (by first | exact turned_refl _ _ _ | exact turned_trans hT (swp_turned (by omega) (by omega) ⟨by omega, by omega⟩ ⟨by omega, by omega⟩)), (by first | exact swr_zero _ _ _ | exact swr_step hW (by omega) (by omega) (by omega))⟩ ?_
  rintro m2 ρ3 w4 ⟨ys, i, hm2, q1_1, q1_2, q1_3, q1_4, q1_0, q1_10, hst, hi, hT, hW⟩
  have hyl := hT.1
  refine cE_seq ?_
  refine cE_seq ?_
  refine cE_region rfl ?_
  refine s_cons (op_move (.int .i64 (i : Int)) q1_10 ?_)
  refine s_cons (op_move (.int .i64 n) q1_3 ?_)
  refine s_cons (op_lss (k := .i64) (a := (i : Int)) (b := n) rfl rfl ?_)
  refine s_nil ?_
  refine then_n ?_
  rcases Bool.eq_false_or_eq_true (decide ((i : Int) < n)) with b5 | b5
  · have c6 : (i : Int) < n := of_decide_eq_true b5
    refine cE_cond true (congrArg Value.bool b5) (fun _ => ?_) (fun h => by cases h)
    refine cE_skip ?_
    refine then_n ?_
    refine cE_seq ?_
    refine cE_block ?_
    have hM25 : stabML [21, 23] [(kEq v_xs), (kEq (.int .i64 a)), (kEq (.int .i64 (i : Int))), (kEq (.int .i64 ((an + i : Nat) : Int))), (kEq v_xs), (kEq (.int .i64 b)), (kEq (.int .i64 (i : Int))), (kEq (.int .i64 ((bn + i : Nat) : Int))), (kEq v_xs), (kEq (.int .i64 b)), (kEq (.int .i64 (i : Int))), (kEq (.int .i64 ((bn + i : Nat) : Int))), (kPtU [21, 23] [(.int .i64 ((ys[(bn + i : Nat)]'(by first | omega | (simp only [List.length_set]; omega))).Id)), (.int .i64 ((ys[(bn + i : Nat)]'(by first | omega | (simp only [List.length_set]; omega))).Tier)), (.int .i64 ((ys[(bn + i : Nat)]'(by first | omega | (simp only [List.length_set]; omega))).From)), (.int .i64 ((ys[(bn + i : Nat)]'(by first | omega | (simp only [List.length_set]; omega))).To)), (.int .u32 ((ys[(bn + i : Nat)]'(by first | omega | (simp only [List.length_set]; omega))).Sum))]), (kEq (.agg #[(.int .i64 ((ys[(bn + i : Nat)]'(by first | omega | (simp only [List.length_set]; omega))).Id)), (.int .i64 ((ys[(bn + i : Nat)]'(by first | omega | (simp only [List.length_set]; omega))).Tier)), (.int .i64 ((ys[(bn + i : Nat)]'(by first | omega | (simp only [List.length_set]; omega))).From)), (.int .i64 ((ys[(bn + i : Nat)]'(by first | omega | (simp only [List.length_set]; omega))).To)), (.int .u32 ((ys[(bn + i : Nat)]'(by first | omega | (simp only [List.length_set]; omega))).Sum))])), (kEq v_xs), (kEq (.int .i64 a)), (kEq (.int .i64 (i : Int))), (kEq (.int .i64 ((an + i : Nat) : Int))), (kPtU [21, 23] [(.int .i64 ((ys[(an + i : Nat)]'(by first | omega | (simp only [List.length_set]; omega))).Id)), (.int .i64 ((ys[(an + i : Nat)]'(by first | omega | (simp only [List.length_set]; omega))).Tier)), (.int .i64 ((ys[(an + i : Nat)]'(by first | omega | (simp only [List.length_set]; omega))).From)), (.int .i64 ((ys[(an + i : Nat)]'(by first | omega | (simp only [List.length_set]; omega))).To)), (.int .u32 ((ys[(an + i : Nat)]'(by first | omega | (simp only [List.length_set]; omega))).Sum))]), (kEq (.agg #[(.int .i64 ((ys[(an + i : Nat)]'(by first | omega | (simp only [List.length_set]; omega))).Id)), (.int .i64 ((ys[(an + i : Nat)]'(by first | omega | (simp only [List.length_set]; omega))).Tier)), (.int .i64 ((ys[(an + i : Nat)]'(by first | omega | (simp only [List.length_set]; omega))).From)), (.int .i64 ((ys[(an + i : Nat)]'(by first | omega | (simp only [List.length_set]; omega))).To)), (.int .u32 ((ys[(an + i : Nat)]'(by first | omega | (simp only [List.length_set]; omega))).Sum))])), (kRow v_xs ((an + i : Nat) * infoE.size)), kAny, (kRow v_xs ((bn + i : Nat) * infoE.size)), kAny] := ⟨mEq, mEq, mEq, mEq, mEq, mEq, mEq, mEq, mEq, mEq, mEq, mEq, (mPtUs (by decide)), mEq, mEq, mEq, mEq, mEq, (mPtUs (by decide)), mEq, mRow, mAny, mRow, mAny, trivial⟩
    refine cE_regionK (fun (D : Nat → Bool) (w : World) => St w0 w L ∧ (D 21 = false → St w0 w (rowT 34 infoE v_xs ys :: L)) ∧ (D 21 = true → D 23 = false → St w0 w (rowT 34 infoE v_xs (ys.set ((an + i : Nat)) (ys[(bn + i : Nat)]'(by first | omega | (simp only [List.length_set]; omega)))) :: L)) ∧ (D 23 = true → St w0 w (rowT 34 infoE v_xs ((ys.set ((an + i : Nat)) (ys[(bn + i : Nat)]'(by first | omega | (simp only [List.length_set]; omega)))).set ((bn + i : Nat)) (ys[(an + i : Nat)]'(by first | omega | (simp only [List.length_set]; omega)))) :: L))) [[(0, none)], [(1, none)], [(10, none)], [(17, some 1), (18, some 2)], [(0, none)], [(2, none)], [(10, none)], [(21, some 5), (22, some 6)], [(0, none)], [(2, none)], [(10, none)], [(25, some 9), (26, some 10)], [(24, some 8), (27, some 11)], [(28, some 12)], [(0, none)], [(1, none)], [(10, none)], [(31, some 15), (32, some 16)], [(30, some 14), (33, some 17)], [(34, some 18)], [(16, some 0), (19, some 3)], [(36, some 20), (29, some 13)], [(20, some 4), (23, some 7)], [(37, some 22), (35, some 19)]] (RofK [(kEq v_xs), (kEq (.int .i64 a)), (kEq (.int .i64 (i : Int))), (kEq (.int .i64 ((an + i : Nat) : Int))), (kEq v_xs), (kEq (.int .i64 b)), (kEq (.int .i64 (i : Int))), (kEq (.int .i64 ((bn + i : Nat) : Int))), (kEq v_xs), (kEq (.int .i64 b)), (kEq (.int .i64 (i : Int))), (kEq (.int .i64 ((bn + i : Nat) : Int))), (kPtU [21, 23] [(.int .i64 ((ys[(bn + i : Nat)]'(by first | omega | (simp only [List.length_set]; omega))).Id)), (.int .i64 ((ys[(bn + i : Nat)]'(by first | omega | (simp only [List.length_set]; omega))).Tier)), (.int .i64 ((ys[(bn + i : Nat)]'(by first | omega | (simp only [List.length_set]; omega))).From)), (.int .i64 ((ys[(bn + i : Nat)]'(by first | omega | (simp only [List.length_set]; omega))).To)), (.int .u32 ((ys[(bn + i : Nat)]'(by first | omega | (simp only [List.length_set]; omega))).Sum))]), (kEq (.agg #[(.int .i64 ((ys[(bn + i : Nat)]'(by first | omega | (simp only [List.length_set]; omega))).Id)), (.int .i64 ((ys[(bn + i : Nat)]'(by first | omega | (simp only [List.length_set]; omega))).Tier)), (.int .i64 ((ys[(bn + i : Nat)]'(by first | omega | (simp only [List.length_set]; omega))).From)), (.int .i64 ((ys[(bn + i : Nat)]'(by first | omega | (simp only [List.length_set]; omega))).To)), (.int .u32 ((ys[(bn + i : Nat)]'(by first | omega | (simp only [List.length_set]; omega))).Sum))])), (kEq v_xs), (kEq (.int .i64 a)), (kEq (.int .i64 (i : Int))), (kEq (.int .i64 ((an + i : Nat) : Int))), (kPtU [21, 23] [(.int .i64 ((ys[(an + i : Nat)]'(by first | omega | (simp only [List.length_set]; omega))).Id)), (.int .i64 ((ys[(an + i : Nat)]'(by first | omega | (simp only [List.length_set]; omega))).Tier)), (.int .i64 ((ys[(an + i : Nat)]'(by first | omega | (simp only [List.length_set]; omega))).From)), (.int .i64 ((ys[(an + i : Nat)]'(by first | omega | (simp only [List.length_set]; omega))).To)), (.int .u32 ((ys[(an + i : Nat)]'(by first | omega | (simp only [List.length_set]; omega))).Sum))]), (kEq (.agg #[(.int .i64 ((ys[(an + i : Nat)]'(by first | omega | (simp only [List.length_set]; omega))).Id)), (.int .i64 ((ys[(an + i : Nat)]'(by first | omega | (simp only [List.length_set]; omega))).Tier)), (.int .i64 ((ys[(an + i : Nat)]'(by first | omega | (simp only [List.length_set]; omega))).From)), (.int .i64 ((ys[(an + i : Nat)]'(by first | omega | (simp only [List.length_set]; omega))).To)), (.int .u32 ((ys[(an + i : Nat)]'(by first | omega | (simp only [List.length_set]; omega))).Sum))])), (kRow v_xs ((an + i : Nat) * infoE.size)), kAny, (kRow v_xs ((bn + i : Nat) * infoE.size)), kAny]) (by kernel_rfl) rfl (by kernel_rfl) ⟨hst.drewW.sub (.cons _ (List.Sublist.refl _)), (fun _ => hst.drewW), (fun h => absurd h Bool.false_ne_true), (fun h => absurd h Bool.false_ne_true)⟩ ⟨?_, ?_, ?_, ?_, ?_, ?_, ?_, ?_, ?_, ?_, ?_, ?_, ?_, ?_, ?_, ?_, ?_, ?_, ?_, ?_, ?_, ?_, ?_, ?_, trivial⟩ ?_
    · rintro D27 ρ28 w29 hD30 hE31 hC32 hJ33 hA34 ⟨f0, _⟩
      have hst := hJ33.2.1 (not_yet hD30 (fun hm => (hC32 21 0 hm (by kernel_rfl))))
      replace hst : St w0 w29 (rowT 34 infoE v_xs ys :: L) := hst
      exact go_plain (op_move v_xs (f0.trans q1_0) (kN0 (i := 0) hM25 (by decide) (by exact hJ33) (by exact rfl)))
    · rintro D35 ρ36 w37 hD38 hE39 hC40 hJ41 hA42 ⟨f1, _⟩
      have hst := hJ41.2.1 (not_yet hD38 (fun hm => (hC40 21 1 hm (by kernel_rfl))))
      replace hst : St w0 w37 (rowT 34 infoE v_xs ys :: L) := hst
      exact go_plain (op_move (.int .i64 a) (f1.trans q1_1) (kN0 (i := 1) hM25 (by decide) (by exact hJ41) (by exact rfl)))
    · rintro D43 ρ44 w45 hD46 hE47 hC48 hJ49 hA50 ⟨f10, _⟩
      have hst := hJ49.2.1 (not_yet hD46 (fun hm => (hC48 21 2 hm (by kernel_rfl))))
      replace hst : St w0 w45 (rowT 34 infoE v_xs ys :: L) := hst
      exact go_plain (op_move (.int .i64 (i : Int)) (f10.trans q1_10) (kN0 (i := 2) hM25 (by decide) (by exact hJ49) (by exact rfl)))
    · rintro D51 ρ52 w53 hD54 hE55 hC56 hJ57 hA58 ⟨f17, f18, _⟩
      have hst := hJ57.2.1 (not_yet hD54 (fun hm => (hC56 21 3 hm (by kernel_rfl))))
      replace hst : St w0 w53 (rowT 34 infoE v_xs ys :: L) := hst
      exact go_plain (op_add (k := .i64) (a := a) (b := (i : Int)) ((an + i : Nat) : Int) f17 f18 (by rw [ha]; exact nat_add (by omega)) (kN0 (i := 3) hM25 (by decide) (by exact hJ57) (by exact rfl)))
    · rintro D59 ρ60 w61 hD62 hE63 hC64 hJ65 hA66 ⟨f0, _⟩
      have hst := hJ65.1
      exact go_plain (op_move v_xs (f0.trans q1_0) (kN0 (i := 4) hM25 (by decide) (by exact hJ65) (by exact rfl)))
    · rintro D67 ρ68 w69 hD70 hE71 hC72 hJ73 hA74 ⟨f2, _⟩
      have hst := hJ73.1
      exact go_plain (op_move (.int .i64 b) (f2.trans q1_2) (kN0 (i := 5) hM25 (by decide) (by exact hJ73) (by exact rfl)))
    · rintro D75 ρ76 w77 hD78 hE79 hC80 hJ81 hA82 ⟨f10, _⟩
      have hst := hJ81.1
      exact go_plain (op_move (.int .i64 (i : Int)) (f10.trans q1_10) (kN0 (i := 6) hM25 (by decide) (by exact hJ81) (by exact rfl)))
    · rintro D83 ρ84 w85 hD86 hE87 hC88 hJ89 hA90 ⟨f21, f22, _⟩
      have hst := hJ89.1
      exact go_plain (op_add (k := .i64) (a := b) (b := (i : Int)) ((bn + i : Nat) : Int) f21 f22 (by rw [hb]; exact nat_add (by omega)) (kN0 (i := 7) hM25 (by decide) (by exact hJ89) (by exact rfl)))
    · rintro D91 ρ92 w93 hD94 hE95 hC96 hJ97 hA98 ⟨f0, _⟩
      have hst := hJ97.2.1 (not_yet hD94 (fun hm => (hC96 21 8 hm (by kernel_rfl))))
      replace hst : St w0 w93 (rowT 34 infoE v_xs ys :: L) := hst
      exact go_plain (op_move v_xs (f0.trans q1_0) (kN0 (i := 8) hM25 (by decide) (by exact hJ97) (by exact rfl)))
    · rintro D99 ρ100 w101 hD102 hE103 hC104 hJ105 hA106 ⟨f2, _⟩
      have hst := hJ105.2.1 (not_yet hD102 (fun hm => (hC104 21 9 hm (by kernel_rfl))))
      replace hst : St w0 w101 (rowT 34 infoE v_xs ys :: L) := hst
      exact go_plain (op_move (.int .i64 b) (f2.trans q1_2) (kN0 (i := 9) hM25 (by decide) (by exact hJ105) (by exact rfl)))
    · rintro D107 ρ108 w109 hD110 hE111 hC112 hJ113 hA114 ⟨f10, _⟩
      have hst := hJ113.2.1 (not_yet hD110 (fun hm => (hC112 21 10 hm (by kernel_rfl))))
      replace hst : St w0 w109 (rowT 34 infoE v_xs ys :: L) := hst
      exact go_plain (op_move (.int .i64 (i : Int)) (f10.trans q1_10) (kN0 (i := 10) hM25 (by decide) (by exact hJ113) (by exact rfl)))
    · rintro D115 ρ116 w117 hD118 hE119 hC120 hJ121 hA122 ⟨f25, f26, _⟩
      have hst := hJ121.2.1 (not_yet hD118 (fun hm => (hC120 21 11 hm (by kernel_rfl))))
      replace hst : St w0 w117 (rowT 34 infoE v_xs ys :: L) := hst
      exact go_plain (op_add (k := .i64) (a := b) (b := (i : Int)) ((bn + i : Nat) : Int) f25 f26 (by rw [hb]; exact nat_add (by omega)) (kN0 (i := 11) hM25 (by decide) (by exact hJ121) (by exact rfl)))
    · rintro D123 ρ124 w125 hD126 hE127 hC128 hJ129 hA130 ⟨f24, f27, _⟩
      have hst := hJ129.2.1 (not_yet hD126 (fun hm => (hC128 21 12 hm (by kernel_rfl))))
      replace hst : St w0 w125 (rowT 34 infoE v_xs ys :: L) := hst
      refine go_plain (op_indexAddrN (E := infoE) (xs := ys) (bn + i : Nat) Try.underlying22 Try.sizeOf34 f24 (hst.sl 0 rfl) f27 (by omega) (by first | omega | (simp only [List.length_set]; omega)) (fun a131 o132 p133 => ?_))
      exact (kN0 (i := 12) hM25 (by decide) (by exact hJ129) (by exact ⟨_, _, rfl, fun _ => p133⟩))
    · rintro D134 ρ135 w136 hD137 hE138 hC139 hJ140 hA141 ⟨f28, _⟩
      have hst := hJ140.2.1 (not_yet hD137 (fun hm => (hC139 21 13 hm (by kernel_rfl))))
      replace hst : St w0 w136 (rowT 34 infoE v_xs ys :: L) := hst
      obtain ⟨a142, o143, e144, p145⟩ := f28
      have p145 := p145 (by intro m hm; simp only [List.mem_cons, List.not_mem_nil, or_false] at hm; rcases hm with rfl | rfl; exact (not_yet hD137 (fun hm => (hC139 21 13 hm (by kernel_rfl)))); exact (not_yet hD137 (fun hm => (hC139 23 13 hm (by kernel_rfl)))))
      exact go_plain (op_loadN (cs := [(.int .i64 ((ys[(bn + i : Nat)]'(by first | omega | (simp only [List.length_set]; omega))).Id)), (.int .i64 ((ys[(bn + i : Nat)]'(by first | omega | (simp only [List.length_set]; omega))).Tier)), (.int .i64 ((ys[(bn + i : Nat)]'(by first | omega | (simp only [List.length_set]; omega))).From)), (.int .i64 ((ys[(bn + i : Nat)]'(by first | omega | (simp only [List.length_set]; omega))).To)), (.int .u32 ((ys[(bn + i : Nat)]'(by first | omega | (simp only [List.length_set]; omega))).Sum))]) Try.isAgg34 Try.sizeOf34 e144 (Pt.of p145 rfl) rfl (kN0 (i := 13) hM25 (by decide) (by exact hJ140) (by exact rfl)))
    · rintro D146 ρ147 w148 hD149 hE150 hC151 hJ152 hA153 ⟨f0, _⟩
      have hst := hJ152.2.1 (not_yet hD149 (fun hm => (hC151 18 14 (hC151 19 18 (hC151 21 19 hm (by kernel_rfl)) (by kernel_rfl)) (by kernel_rfl))))
      replace hst : St w0 w148 (rowT 34 infoE v_xs ys :: L) := hst
      exact go_plain (op_move v_xs (f0.trans q1_0) (kN0 (i := 14) hM25 (by decide) (by exact hJ152) (by exact rfl)))
    · rintro D154 ρ155 w156 hD157 hE158 hC159 hJ160 hA161 ⟨f1, _⟩
      have hst := hJ160.2.1 (not_yet hD157 (fun hm => (hC159 17 15 (hC159 18 17 (hC159 19 18 (hC159 21 19 hm (by kernel_rfl)) (by kernel_rfl)) (by kernel_rfl)) (by kernel_rfl))))
      replace hst : St w0 w156 (rowT 34 infoE v_xs ys :: L) := hst
      exact go_plain (op_move (.int .i64 a) (f1.trans q1_1) (kN0 (i := 15) hM25 (by decide) (by exact hJ160) (by exact rfl)))
    · rintro D162 ρ163 w164 hD165 hE166 hC167 hJ168 hA169 ⟨f10, _⟩
      have hst := hJ168.2.1 (not_yet hD165 (fun hm => (hC167 17 16 (hC167 18 17 (hC167 19 18 (hC167 21 19 hm (by kernel_rfl)) (by kernel_rfl)) (by kernel_rfl)) (by kernel_rfl))))
      replace hst : St w0 w164 (rowT 34 infoE v_xs ys :: L) := hst
      exact go_plain (op_move (.int .i64 (i : Int)) (f10.trans q1_10) (kN0 (i := 16) hM25 (by decide) (by exact hJ168) (by exact rfl)))
    · rintro D170 ρ171 w172 hD173 hE174 hC175 hJ176 hA177 ⟨f31, f32, _⟩
      have hst := hJ176.2.1 (not_yet hD173 (fun hm => (hC175 18 17 (hC175 19 18 (hC175 21 19 hm (by kernel_rfl)) (by kernel_rfl)) (by kernel_rfl))))
      replace hst : St w0 w172 (rowT 34 infoE v_xs ys :: L) := hst
      exact go_plain (op_add (k := .i64) (a := a) (b := (i : Int)) ((an + i : Nat) : Int) f31 f32 (by rw [ha]; exact nat_add (by omega)) (kN0 (i := 17) hM25 (by decide) (by exact hJ176) (by exact rfl)))
    · rintro D178 ρ179 w180 hD181 hE182 hC183 hJ184 hA185 ⟨f30, f33, _⟩
      have hst := hJ184.2.1 (not_yet hD181 (fun hm => (hC183 19 18 (hC183 21 19 hm (by kernel_rfl)) (by kernel_rfl))))
      replace hst : St w0 w180 (rowT 34 infoE v_xs ys :: L) := hst
      refine go_plain (op_indexAddrN (E := infoE) (xs := ys) (an + i : Nat) Try.underlying22 Try.sizeOf34 f30 (hst.sl 0 rfl) f33 (by omega) (by first | omega | (simp only [List.length_set]; omega)) (fun a186 o187 p188 => ?_))
      exact (kN0 (i := 18) hM25 (by decide) (by exact hJ184) (by exact ⟨_, _, rfl, fun _ => p188⟩))
    · rintro D189 ρ190 w191 hD192 hE193 hC194 hJ195 hA196 ⟨f34, _⟩
      have hst := hJ195.2.1 (not_yet hD192 (fun hm => (hC194 21 19 hm (by kernel_rfl))))
      replace hst : St w0 w191 (rowT 34 infoE v_xs ys :: L) := hst
      obtain ⟨a197, o198, e199, p200⟩ := f34
      have p200 := p200 (by intro m hm; simp only [List.mem_cons, List.not_mem_nil, or_false] at hm; rcases hm with rfl | rfl; exact (not_yet hD192 (fun hm => (hC194 21 19 hm (by kernel_rfl)))); exact (not_yet hD192 (fun hm => (hC194 23 19 hm (by kernel_rfl)))))
      exact go_plain (op_loadN (cs := [(.int .i64 ((ys[(an + i : Nat)]'(by first | omega | (simp only [List.length_set]; omega))).Id)), (.int .i64 ((ys[(an + i : Nat)]'(by first | omega | (simp only [List.length_set]; omega))).Tier)), (.int .i64 ((ys[(an + i : Nat)]'(by first | omega | (simp only [List.length_set]; omega))).From)), (.int .i64 ((ys[(an + i : Nat)]'(by first | omega | (simp only [List.length_set]; omega))).To)), (.int .u32 ((ys[(an + i : Nat)]'(by first | omega | (simp only [List.length_set]; omega))).Sum))]) Try.isAgg34 Try.sizeOf34 e199 (Pt.of p200 rfl) rfl (kN0 (i := 19) hM25 (by decide) (by exact hJ195) (by exact rfl)))
    · rintro D201 ρ202 w203 hD204 hE205 hC206 hJ207 hA208 ⟨f16, f19, _⟩
      have hst := hJ207.2.1 (not_yet hD204 (fun hm => (hC206 21 20 hm (by kernel_rfl))))
      replace hst : St w0 w203 (rowT 34 infoE v_xs ys :: L) := hst
      refine go_plain (op_indexRowN hst 0 rfl (an + i : Nat) Try.underlying22 Try.sizeOf34 f16 f19 (by omega) (by first | omega | (simp only [List.length_set]; omega)) (fun g213 hb212 p211 => ?_))
      exact (kN0 (i := 20) hM25 (by decide) (by exact hJ207) (by exact ⟨_, hb212, rfl⟩))
    · rintro D214 ρ215 w216 hD217 hE218 hC219 hJ220 hA221 ⟨f36, f29, _⟩
      have hst := hJ220.2.1 hD217
      replace hst : St w0 w216 (rowT 34 infoE v_xs ys :: L) := hst
      obtain ⟨g222, hb224, e223⟩ := f36
      refine go_plain (op_storeRowN (y := (ys[(bn + i : Nat)]'(by first | omega | (simp only [List.length_set]; omega)))) hst 0 rfl hb224 Try.sizeOf34 e223 f29 ((an + i : Nat)) rfl (by first | omega | (simp only [List.length_set]; omega)) rfl (fun w225 hst => ?_))
      replace hst : St w0 w225 (rowT 34 infoE v_xs (ys.set ((an + i : Nat)) (ys[(bn + i : Nat)]'(by first | omega | (simp only [List.length_set]; omega)))) :: L) := hst
      have hI226 : stabIXs 21 [] D214 0 [(kEq v_xs), (kEq (.int .i64 a)), (kEq (.int .i64 (i : Int))), (kEq (.int .i64 ((an + i : Nat) : Int))), (kEq v_xs), (kEq (.int .i64 b)), (kEq (.int .i64 (i : Int))), (kEq (.int .i64 ((bn + i : Nat) : Int))), (kEq v_xs), (kEq (.int .i64 b)), (kEq (.int .i64 (i : Int))), (kEq (.int .i64 ((bn + i : Nat) : Int))), (kPtU [21, 23] [(.int .i64 ((ys[(bn + i : Nat)]'(by first | omega | (simp only [List.length_set]; omega))).Id)), (.int .i64 ((ys[(bn + i : Nat)]'(by first | omega | (simp only [List.length_set]; omega))).Tier)), (.int .i64 ((ys[(bn + i : Nat)]'(by first | omega | (simp only [List.length_set]; omega))).From)), (.int .i64 ((ys[(bn + i : Nat)]'(by first | omega | (simp only [List.length_set]; omega))).To)), (.int .u32 ((ys[(bn + i : Nat)]'(by first | omega | (simp only [List.length_set]; omega))).Sum))]), (kEq (.agg #[(.int .i64 ((ys[(bn + i : Nat)]'(by first | omega | (simp only [List.length_set]; omega))).Id)), (.int .i64 ((ys[(bn + i : Nat)]'(by first | omega | (simp only [List.length_set]; omega))).Tier)), (.int .i64 ((ys[(bn + i : Nat)]'(by first | omega | (simp only [List.length_set]; omega))).From)), (.int .i64 ((ys[(bn + i : Nat)]'(by first | omega | (simp only [List.length_set]; omega))).To)), (.int .u32 ((ys[(bn + i : Nat)]'(by first | omega | (simp only [List.length_set]; omega))).Sum))])), (kEq v_xs), (kEq (.int .i64 a)), (kEq (.int .i64 (i : Int))), (kEq (.int .i64 ((an + i : Nat) : Int))), (kPtU [21, 23] [(.int .i64 ((ys[(an + i : Nat)]'(by first | omega | (simp only [List.length_set]; omega))).Id)), (.int .i64 ((ys[(an + i : Nat)]'(by first | omega | (simp only [List.length_set]; omega))).Tier)), (.int .i64 ((ys[(an + i : Nat)]'(by first | omega | (simp only [List.length_set]; omega))).From)), (.int .i64 ((ys[(an + i : Nat)]'(by first | omega | (simp only [List.length_set]; omega))).To)), (.int .u32 ((ys[(an + i : Nat)]'(by first | omega | (simp only [List.length_set]; omega))).Sum))]), (kEq (.agg #[(.int .i64 ((ys[(an + i : Nat)]'(by first | omega | (simp only [List.length_set]; omega))).Id)), (.int .i64 ((ys[(an + i : Nat)]'(by first | omega | (simp only [List.length_set]; omega))).Tier)), (.int .i64 ((ys[(an + i : Nat)]'(by first | omega | (simp only [List.length_set]; omega))).From)), (.int .i64 ((ys[(an + i : Nat)]'(by first | omega | (simp only [List.length_set]; omega))).To)), (.int .u32 ((ys[(an + i : Nat)]'(by first | omega | (simp only [List.length_set]; omega))).Sum))])), (kRow v_xs ((an + i : Nat) * infoE.size)), kAny, (kRow v_xs ((bn + i : Nat) * infoE.size)), kAny] := ⟨Or.inr (Or.inr (Or.inr iEq)), Or.inr (Or.inr (Or.inr iEq)), Or.inr (Or.inr (Or.inr iEq)), Or.inr (Or.inr (Or.inr iEq)), Or.inr (Or.inr (Or.inr iEq)), Or.inr (Or.inr (Or.inr iEq)), Or.inr (Or.inr (Or.inr iEq)), Or.inr (Or.inr (Or.inr iEq)), Or.inr (Or.inr (Or.inr iEq)), Or.inr (Or.inr (Or.inr iEq)), Or.inr (Or.inr (Or.inr iEq)), Or.inr (Or.inr (Or.inr iEq)), Or.inr (Or.inr (Or.inr (iPtU (by decide)))), Or.inr (Or.inr (Or.inr iEq)), Or.inr (Or.inr (Or.inr iEq)), Or.inr (Or.inr (Or.inr iEq)), Or.inr (Or.inr (Or.inr iEq)), Or.inr (Or.inr (Or.inr iEq)), Or.inr (Or.inr (Or.inr (iPtU (by decide)))), Or.inr (Or.inr (Or.inr iEq)), Or.inr (Or.inr (Or.inr iRow)), Or.inl rfl, Or.inr (Or.inr (Or.inl (not_yet hD217 (fun hm => (hC219 22 21 hm (by kernel_rfl)))))), Or.inr (Or.inr (Or.inl (not_yet hD217 (fun hm => (hC219 23 21 hm (by kernel_rfl)))))), trivial⟩
      refine ⟨by exact ⟨hst.sub (.cons _ (List.Sublist.refl _)), (fun y0 => absurd y0 (fun h => Bool.noConfusion h)), (fun y0 y1 => hst.sub (.cons_cons _ (List.Sublist.refl _))), (fun y0 => absurd (show D214 23 = true from y0) (by rw [(not_yet hD217 (fun hm => (hC219 23 21 hm (by kernel_rfl))))]; decide))⟩, by exact trivial, kX [] hI226 ?_⟩
      intro j d hj; cases hj
    · rintro D227 ρ228 w229 hD230 hE231 hC232 hJ233 hA234 ⟨f20, f23, _⟩
      have hst := hJ233.2.2.1 (hE231 21 (by kernel_rfl)) (not_yet hD230 (fun hm => (hC232 23 22 hm (by kernel_rfl))))
      replace hst : St w0 w229 (rowT 34 infoE v_xs (ys.set ((an + i : Nat)) (ys[(bn + i : Nat)]'(by first | omega | (simp only [List.length_set]; omega)))) :: L) := hst
      refine go_plain (op_indexRowN hst 0 rfl (bn + i : Nat) Try.underlying22 Try.sizeOf34 f20 f23 (by omega) (by first | omega | (simp only [List.length_set]; omega)) (fun g239 hb238 p237 => ?_))
      exact (kN0 (i := 22) hM25 (by decide) (by exact hJ233) (by exact ⟨_, hb238, rfl⟩))
    · rintro D240 ρ241 w242 hD243 hE244 hC245 hJ246 hA247 ⟨f37, f35, _⟩
      have hst := hJ246.2.2.1 (hE244 21 (by kernel_rfl)) hD243
      replace hst : St w0 w242 (rowT 34 infoE v_xs (ys.set ((an + i : Nat)) (ys[(bn + i : Nat)]'(by first | omega | (simp only [List.length_set]; omega)))) :: L) := hst
      obtain ⟨g248, hb250, e249⟩ := f37
      refine go_plain (op_storeRowN (y := (ys[(an + i : Nat)]'(by first | omega | (simp only [List.length_set]; omega)))) hst 0 rfl hb250 Try.sizeOf34 e249 f35 ((bn + i : Nat)) rfl (by first | omega | (simp only [List.length_set]; omega)) rfl (fun w251 hst => ?_))
      replace hst : St w0 w251 (rowT 34 infoE v_xs ((ys.set ((an + i : Nat)) (ys[(bn + i : Nat)]'(by first | omega | (simp only [List.length_set]; omega)))).set ((bn + i : Nat)) (ys[(an + i : Nat)]'(by first | omega | (simp only [List.length_set]; omega)))) :: L) := hst
      have hI252 : stabIXs 23 [] D240 0 [(kEq v_xs), (kEq (.int .i64 a)), (kEq (.int .i64 (i : Int))), (kEq (.int .i64 ((an + i : Nat) : Int))), (kEq v_xs), (kEq (.int .i64 b)), (kEq (.int .i64 (i : Int))), (kEq (.int .i64 ((bn + i : Nat) : Int))), (kEq v_xs), (kEq (.int .i64 b)), (kEq (.int .i64 (i : Int))), (kEq (.int .i64 ((bn + i : Nat) : Int))), (kPtU [21, 23] [(.int .i64 ((ys[(bn + i : Nat)]'(by first | omega | (simp only [List.length_set]; omega))).Id)), (.int .i64 ((ys[(bn + i : Nat)]'(by first | omega | (simp only [List.length_set]; omega))).Tier)), (.int .i64 ((ys[(bn + i : Nat)]'(by first | omega | (simp only [List.length_set]; omega))).From)), (.int .i64 ((ys[(bn + i : Nat)]'(by first | omega | (simp only [List.length_set]; omega))).To)), (.int .u32 ((ys[(bn + i : Nat)]'(by first | omega | (simp only [List.length_set]; omega))).Sum))]), (kEq (.agg #[(.int .i64 ((ys[(bn + i : Nat)]'(by first | omega | (simp only [List.length_set]; omega))).Id)), (.int .i64 ((ys[(bn + i : Nat)]'(by first | omega | (simp only [List.length_set]; omega))).Tier)), (.int .i64 ((ys[(bn + i : Nat)]'(by first | omega | (simp only [List.length_set]; omega))).From)), (.int .i64 ((ys[(bn + i : Nat)]'(by first | omega | (simp only [List.length_set]; omega))).To)), (.int .u32 ((ys[(bn + i : Nat)]'(by first | omega | (simp only [List.length_set]; omega))).Sum))])), (kEq v_xs), (kEq (.int .i64 a)), (kEq (.int .i64 (i : Int))), (kEq (.int .i64 ((an + i : Nat) : Int))), (kPtU [21, 23] [(.int .i64 ((ys[(an + i : Nat)]'(by first | omega | (simp only [List.length_set]; omega))).Id)), (.int .i64 ((ys[(an + i : Nat)]'(by first | omega | (simp only [List.length_set]; omega))).Tier)), (.int .i64 ((ys[(an + i : Nat)]'(by first | omega | (simp only [List.length_set]; omega))).From)), (.int .i64 ((ys[(an + i : Nat)]'(by first | omega | (simp only [List.length_set]; omega))).To)), (.int .u32 ((ys[(an + i : Nat)]'(by first | omega | (simp only [List.length_set]; omega))).Sum))]), (kEq (.agg #[(.int .i64 ((ys[(an + i : Nat)]'(by first | omega | (simp only [List.length_set]; omega))).Id)), (.int .i64 ((ys[(an + i : Nat)]'(by first | omega | (simp only [List.length_set]; omega))).Tier)), (.int .i64 ((ys[(an + i : Nat)]'(by first | omega | (simp only [List.length_set]; omega))).From)), (.int .i64 ((ys[(an + i : Nat)]'(by first | omega | (simp only [List.length_set]; omega))).To)), (.int .u32 ((ys[(an + i : Nat)]'(by first | omega | (simp only [List.length_set]; omega))).Sum))])), (kRow v_xs ((an + i : Nat) * infoE.size)), kAny, (kRow v_xs ((bn + i : Nat) * infoE.size)), kAny] := ⟨Or.inr (Or.inr (Or.inr iEq)), Or.inr (Or.inr (Or.inr iEq)), Or.inr (Or.inr (Or.inr iEq)), Or.inr (Or.inr (Or.inr iEq)), Or.inr (Or.inr (Or.inr iEq)), Or.inr (Or.inr (Or.inr iEq)), Or.inr (Or.inr (Or.inr iEq)), Or.inr (Or.inr (Or.inr iEq)), Or.inr (Or.inr (Or.inr iEq)), Or.inr (Or.inr (Or.inr iEq)), Or.inr (Or.inr (Or.inr iEq)), Or.inr (Or.inr (Or.inr iEq)), Or.inr (Or.inr (Or.inr (iPtU (by decide)))), Or.inr (Or.inr (Or.inr iEq)), Or.inr (Or.inr (Or.inr iEq)), Or.inr (Or.inr (Or.inr iEq)), Or.inr (Or.inr (Or.inr iEq)), Or.inr (Or.inr (Or.inr iEq)), Or.inr (Or.inr (Or.inr (iPtU (by decide)))), Or.inr (Or.inr (Or.inr iEq)), Or.inr (Or.inr (Or.inr iRow)), Or.inr (Or.inr (Or.inr iAny)), Or.inr (Or.inr (Or.inr iRow)), Or.inl rfl, trivial⟩
      refine ⟨by exact ⟨hst.sub (.cons _ (List.Sublist.refl _)), (fun y0 => absurd (show D240 21 = false from y0) (by rw [(hE244 21 (by kernel_rfl))]; decide)), (fun y0 y1 => absurd y1 (fun h => Bool.noConfusion h)), (fun y0 => hst.sub (.cons_cons _ (List.Sublist.refl _)))⟩, by exact trivial, kX [] hI252 ?_⟩
      intro j d hj; cases hj
    intro ρ253 w254 Dw254 hallw254 hJw254 hRw254 hkw254
    have hst : St w0 w254 (rowT 34 infoE v_xs ((ys.set ((an + i : Nat)) (ys[(bn + i : Nat)]'(by first | omega | (simp only [List.length_set]; omega)))).set ((bn + i : Nat)) (ys[(an + i : Nat)]'(by first | omega | (simp only [List.length_set]; omega)))) :: L) := hJw254.2.2.2 (hallw254 23 (show 23 < 24 from by decide))
    have uw254_1 : ρ253 1 = (.int .i64 a) := (hkw254 1 rfl).trans q1_1
    have uw254_2 : ρ253 2 = (.int .i64 b) := (hkw254 2 rfl).trans q1_2
    have uw254_3 : ρ253 3 = (.int .i64 n) := (hkw254 3 rfl).trans q1_3
    have uw254_4 : ρ253 4 = (.func (.func 24) #[] #[]) := (hkw254 4 rfl).trans q1_4
    have uw254_0 : ρ253 0 = v_xs := (hkw254 0 rfl).trans q1_0
    have uw254_10 : ρ253 10 = (.int .i64 (i : Int)) := (hkw254 10 rfl).trans q1_10
    have uw254_11 : ρ253 11 = (.int .i64 (i : Int)) := (hkw254 11 rfl).trans rfl
    have uw254_12 : ρ253 12 = (.int .i64 n) := (hkw254 12 rfl).trans rfl
    have uw254_13 : ρ253 13 = (.bool (decide ((i : Int) < n))) := (hkw254 13 rfl).trans rfl
    refine block_n (then_n ?_)
    refine cE_region rfl ?_
    refine s_cons (op_move (.int .i64 (i : Int)) uw254_10 ?_)
    refine s_cons (op_add (k := .i64) (a := (i : Int)) (b := 1) ((i : Int) + 1) rfl rfl (xi64 (by omega) (by omega)) ?_)
    refine s_cons (op_assign (.int .i64 ((i : Int) + 1)) rfl ?_)
    refine s_nil ?_
    refine then_n ?_
    exact ⟨_, ⟨((ys.set ((an + i : Nat)) (ys[(bn + i : Nat)]'(by first | omega | (simp only [List.length_set]; omega)))).set ((bn + i : Nat)) (ys[(an + i : Nat)]'(by first | omega | (simp only [List.length_set]; omega)))), (i + 1), rfl, uw254_1, uw254_2, uw254_3, uw254_4, uw254_0, (congrArg (Value.int .i64) (show ((i : Int) + 1) = _ from by omega)), hst, (by omega), (by first | exact turned_refl _ _ _ | exact turned_trans hT (swp_turned (by omega) (by omega) ⟨by omega, by omega⟩ ⟨by omega, by omega⟩)), (by first | exact swr_zero _ _ _ | exact swr_step hW (by omega) (by omega) (by omega))⟩, (by simp only [id]; omega)⟩
  have c255 : ¬ ((i : Int) < n) := of_decide_eq_false b5
  refine cE_cond false (congrArg Value.bool b5) (fun h => by cases h) (fun _ => ?_)
  refine cE_exit ?_
  refine then_x (then_x (block_hit ?_))
  refine post_n (.tuple #[]) rfl ?_
  exact ⟨ys, rfl, hst.sub (.cons_cons _ (List.Sublist.refl _)), (swr_at hW (by omega)), hT⟩

end Go.Proofs.Ytadnedoecbfojaa
