/- judge.may, judge.within -/
import Derived.Test.YtldfnkhccaglmaaXLB
import Derived.Test.YtldfnkhccaglmaaXLA
import Derived.Test.YtldfnkhccaglmaaXTM
import Derived.Test.YtldfnkhccaglmaaXT
import Derived.Test.YtldfnkhccaglmaaXW4
import Derived.Test.YtldfnkhccaglmaaXW5
namespace Go.Proofs.Ytldfnkhccaglmaa
open Go.RowKit

set_option maxRecDepth 8000 in
set_option maxHeartbeats 8000000 in
theorem c_mayW (w0 : World) (u : Win) (hx : u.ok) :
  Calls Try.prog 26 #[(.agg #[(iV u.Tier), (iV u.Lo), (iV u.Hi), (iV u.Agg.From), (iV u.Agg.Count), (iV u.Agg.Sum), (iV u.Agg.Min), (iV u.Agg.Max), (iV u.Agg.First), (iV u.Agg.Last)])] w0 fun e w' => e = .returned (.bool (mayW u)) ∧ St w0 w' [] := by
 have hwr := width_r u.Tier
 have hx1 : i64R u.Tier := hx.1
 refine calls_E (n := 51) (ts := [2]) Try.func26 rfl rfl rfl (by simp) ?_
 have hst := St.start w0
 refine cE_seq (cE_region rfl (s_cons (op_box (v := (.agg #[(iV u.Tier), (iV u.Lo), (iV u.Hi), (iV u.Agg.From), (iV u.Agg.Count), (iV u.Agg.Sum), (iV u.Agg.Min), (iV u.Agg.Max), (iV u.Agg.First), (iV u.Agg.Last)])) (cs := #[(iV u.Tier), (iV u.Lo), (iV u.Hi), (iV u.Agg.From), (iV u.Agg.Count), (iV u.Agg.Sum), (iV u.Agg.Min), (iV u.Agg.Max), (iV u.Agg.First), (iV u.Agg.Last)]) hst rfl rfl (fun g1 w2 hst _ => ?_))))
 refine s_cons (op_assign (.bool false) rfl (s_nil (then_n (cE_seq (cE_region rfl (s_cons (op_fieldAddr (s := 0) Try.underlying33 rfl rfl Try.sizeOf3 rfl (s_cons (op_load1 (u := (iV u.Tier)) Try.isAgg3 rfl (hst.cell 0 rfl) (s_cons (op_call Try.call38 (evs_cons (v := (iV u.Tier)) rfl evs_nil) (c_Width (w0 := w2) (k := u.Tier) (k0 := (by omega)) (k1 := (by omega))) ?_)))))))))))
 rintro _ w3 ⟨rfl, hcall⟩
 refine ⟨_, rfl, ?_⟩
 have hst := hst.call hcall
 refine s_cons (op_assign (iV (widthA u.Tier)) rfl (s_nil (then_n (cE_seq ?_))))
 obtain ⟨g5, hg6⟩ : ∃ x : Bool, x = ((decide (0 < (widthA u.Tier))) && (mayA u.Agg)) := ⟨_, rfl⟩
 obtain ⟨g8, hg9⟩ : ∃ x : Bool, x = (g5 && (decide (u.Agg.From = (floorA u.Agg.From u.Tier)))) := ⟨_, rfl⟩
 obtain ⟨g10, hg11⟩ : ∃ x : Bool, x = (g8 && (decide (u.Agg.From ≤ u.Lo))) := ⟨_, rfl⟩
 obtain ⟨g12, hg13⟩ : ∃ x : Bool, x = (g10 && (decide (u.Lo < u.Hi))) := ⟨_, rfl⟩
 obtain ⟨g14, hg15⟩ : ∃ x : Bool, x = (g12 && (decide (u.Hi ≤ (u.Agg.From + (widthA u.Tier))))) := ⟨_, rfl⟩
 refine cE_regionM (fun (D : Nat → Bool) (w : World) => St w0 w [.blk g1 33 #[(iV u.Tier), (iV u.Lo), (iV u.Hi), (iV u.Agg.From), (iV u.Agg.Count), (iV u.Agg.Sum), (iV u.Agg.Min), (iV u.Agg.Max), (iV u.Agg.First), (iV u.Agg.Last)]] ∧ (St w0 w [.blk g1 33 #[(iV u.Tier), (iV u.Lo), (iV u.Hi), (iV u.Agg.From), (iV u.Agg.Count), (iV u.Agg.Sum), (iV u.Agg.Min), (iV u.Agg.Max), (iV u.Agg.First), (iV u.Agg.Last)]])) [[(3, none)], [(7, some 0)], [(8, some 1)], [(1, none), (9, some 2)], [(10, some 3), (9, some 2)], [(11, some 4), (9, some 2)], [(9, some 2), (12, some 5)], [(13, some 6)], [(1, none), (14, some 7)], [(15, some 8), (14, some 7)], [(16, some 9), (14, some 7)], [(1, none), (14, some 7)], [(18, some 11), (14, some 7)], [(19, some 12), (14, some 7)], [(1, none), (14, some 7)], [(21, some 14), (14, some 7)], [(20, some 13), (22, some 15), (14, some 7)], [(17, some 10), (23, some 16), (14, some 7)], [(14, some 7), (24, some 17)], [(25, some 18)], [(1, none), (26, some 19)], [(27, some 20), (26, some 19)], [(1, none), (26, some 19)], [(29, some 22), (26, some 19)], [(30, some 23), (26, some 19)], [(28, some 21), (31, some 24), (26, some 19)], [(26, some 19), (32, some 25)], [(33, some 26)], [(1, none), (34, some 27)], [(35, some 28), (34, some 27)], [(1, none), (34, some 27)], [(37, some 30), (34, some 27)], [(36, some 29), (38, some 31), (34, some 27)], [(34, some 27), (39, some 32)], [(40, some 33)], [(1, none), (41, some 34)], [(42, some 35), (41, some 34)], [(1, none), (41, some 34)], [(44, some 37), (41, some 34)], [(45, some 38), (41, some 34)], [(3, none), (41, some 34)], [(46, some 39), (47, some 40), (41, some 34)], [(43, some 36), (48, some 41), (41, some 34)], [(41, some 34), (49, some 42)], [(50, some 43)]] [] [(kEq (iV (widthA u.Tier))), (kEq (.bool (decide (0 < (widthA u.Tier))))), (kEq (.bool (decide (0 < (widthA u.Tier))))), (kEq (bif (decide (0 < (widthA u.Tier))) then (.pointer (some ⟨g1, (0 + 3), none⟩)) else undef)), (kEq (bif (decide (0 < (widthA u.Tier))) then (.agg (aggA (u.Agg))) else undef)), (kEq (bif (decide (0 < (widthA u.Tier))) then (.bool (mayA u.Agg)) else undef)), (kEq (.bool g5)), (kEq (.bool g5)), (kEq (bif g5 then (.pointer (some ⟨g1, (0 + 3), none⟩)) else undef)), (kEq (bif g5 then (.pointer (some ⟨g1, ((0 + 3) + 0), none⟩)) else undef)), (kEq (bif g5 then (iV u.Agg.From) else undef)), (kEq (bif g5 then (.pointer (some ⟨g1, (0 + 3), none⟩)) else undef)), (kEq (bif g5 then (.pointer (some ⟨g1, ((0 + 3) + 0), none⟩)) else undef)), (kEq (bif g5 then (iV u.Agg.From) else undef)), (kEq (bif g5 then (.pointer (some ⟨g1, (0 + 0), none⟩)) else undef)), (kEq (bif g5 then (iV u.Tier) else undef)), (kEq (bif g5 then (iV (floorA u.Agg.From u.Tier)) else undef)), (kEq (bif g5 then (.bool (decide (u.Agg.From = (floorA u.Agg.From u.Tier)))) else undef)), (kEq (.bool g8)), (kEq (.bool g8)), (kEq (bif g8 then (.pointer (some ⟨g1, (0 + 1), none⟩)) else undef)), (kEq (bif g8 then (iV u.Lo) else undef)), (kEq (bif g8 then (.pointer (some ⟨g1, (0 + 3), none⟩)) else undef)), (kEq (bif g8 then (.pointer (some ⟨g1, ((0 + 3) + 0), none⟩)) else undef)), (kEq (bif g8 then (iV u.Agg.From) else undef)), (kEq (bif g8 then (.bool (decide (u.Agg.From ≤ u.Lo))) else undef)), (kEq (.bool g10)), (kEq (.bool g10)), (kEq (bif g10 then (.pointer (some ⟨g1, (0 + 1), none⟩)) else undef)), (kEq (bif g10 then (iV u.Lo) else undef)), (kEq (bif g10 then (.pointer (some ⟨g1, (0 + 2), none⟩)) else undef)), (kEq (bif g10 then (iV u.Hi) else undef)), (kEq (bif g10 then (.bool (decide (u.Lo < u.Hi))) else undef)), (kEq (.bool g12)), (kEq (.bool g12)), (kEq (bif g12 then (.pointer (some ⟨g1, (0 + 2), none⟩)) else undef)), (kEq (bif g12 then (iV u.Hi) else undef)), (kEq (bif g12 then (.pointer (some ⟨g1, (0 + 3), none⟩)) else undef)), (kEq (bif g12 then (.pointer (some ⟨g1, ((0 + 3) + 0), none⟩)) else undef)), (kEq (bif g12 then (iV u.Agg.From) else undef)), (kEq (bif g12 then (iV (widthA u.Tier)) else undef)), (kEq (bif g12 then (iV (u.Agg.From + (widthA u.Tier))) else undef)), (kEq (bif g12 then (.bool (decide (u.Hi ≤ (u.Agg.From + (widthA u.Tier))))) else undef)), (kEq (.bool g14)), (kEq (.bool g14))] ⟨mEq, mEq, mEq, mEq, mEq, mEq, mEq, mEq, mEq, mEq, mEq, mEq, mEq, mEq, mEq, mEq, mEq, mEq, mEq, mEq, mEq, mEq, mEq, mEq, mEq, mEq, mEq, mEq, mEq, mEq, mEq, mEq, mEq, mEq, mEq, mEq, mEq, mEq, mEq, mEq, mEq, mEq, mEq, mEq, mEq, trivial⟩ (by kernel_rfl) rfl (by kernel_rfl) ⟨hst.drewW.sub (.cons_cons _ .slnil), hst.drewW⟩ (fun hM => ⟨?_, ?_, ?_, ?_, ?_, ?_, ?_, ?_, ?_, ?_, ?_, ?_, ?_, ?_, ?_, ?_, ?_, ?_, ?_, ?_, ?_, ?_, ?_, ?_, ?_, ?_, ?_, ?_, ?_, ?_, ?_, ?_, ?_, ?_, ?_, ?_, ?_, ?_, ?_, ?_, ?_, ?_, ?_, ?_, ?_, trivial⟩) ?_
 ·rintro D ρo wo nD eD cD jD aD ⟨f3, _⟩
  exact go_plain (op_move (iV (widthA u.Tier)) (f3.trans rfl) (kN0 (i := 0) hM (by decide) (by exact jD) (by exact rfl)))
 ·rintro D ρo wo nD eD cD jD aD ⟨f7, _⟩
  exact go_plain (op_gtr (k := .i64) (a := (widthA u.Tier)) (b := 0) f7 rfl (kN0 (i := 1) hM (by decide) (by exact jD) (by exact rfl)))
 ·rintro D ρo wo nD eD cD jD aD ⟨f8, _⟩
  exact go_plain (op_move (.bool (decide (0 < (widthA u.Tier)))) f8 (kN0 (i := 2) hM (by decide) (by exact jD) (by exact rfl)))
 ·rintro D ρo wo nD eD cD jD aD ⟨f1, f9, _⟩
  refine go_lz 9 rfl (gA_t f9) ?_ (fun hc17 => (kN0 (i := 3) hM (by decide) (by exact jD) (by exact (gf hc17).symm)))
  intro hc17
  exact id (op_fieldAddr (s := 6) Try.underlying33 rfl rfl Try.sizeOf29 (f1.trans rfl) (kN0 (i := 3) hM (by decide) (by exact jD) (by exact (gt hc17).symm)))
 ·rintro D ρo wo nD eD cD jD aD ⟨f10, f9, _⟩
  refine go_lz 9 rfl (gA_t f9) ?_ (fun hc18 => (kN0 (i := 4) hM (by decide) (by exact jD) (by exact (gf hc18).symm)))
  intro hc18
  have hst := jD.2 
  exact id (op_loadN (cs := (aggC (u.Agg))) Try.isAgg29 Try.sizeOf29 (f10.trans (gt hc18)) (Pt.of ((hst.cell 0 rfl).drop 3) rfl) rfl (kN0 (i := 4) hM (by decide) (by exact jD) (by exact (gt hc18).symm)))
 ·rintro D ρo wo nD eD cD jD aD ⟨f11, f9, _⟩
  refine go_lz 9 rfl (gA_t f9) ?_ (fun hc19 => (kN0 (i := 5) hM (by decide) (by exact jD) (by exact (gf hc19).symm)))
  intro hc19
  have c20 := of_decide_eq_true hc19
  refine id (op_call Try.call41 (evs_cons (v := (.agg (aggA (u.Agg)))) (f11.trans (gt hc19)) evs_nil) (c_May (w0 := wo) (a := u.Agg)) ?_)
  rintro _ w21 ⟨rfl, hcall⟩
  refine ⟨_, rfl, ?_⟩
  exact kN (i := 5) hM (by decide) hcall.below (by exact ⟨(jD.1).ext hcall.below, (jD.2).ext hcall.below⟩) (by exact (gt hc19).symm)
 ·rintro D ρo wo nD eD cD jD aD ⟨f9, f12, _⟩
  refine go_plain (op_pick_and f9 f12 (fun hp => hp) rfl ?_)
  exact (kN0 (i := 6) hM (by decide) (by exact jD) (by exact (congrArg Value.bool hg6.symm)))
 ·rintro D ρo wo nD eD cD jD aD ⟨f13, _⟩
  exact go_plain (op_move (.bool g5) f13 (kN0 (i := 7) hM (by decide) (by exact jD) (by exact rfl)))
 ·rintro D ρo wo nD eD cD jD aD ⟨f1, f14, _⟩
  refine go_lz 14 rfl (gA_t f14) ?_ (fun hc22 => (kN0 (i := 8) hM (by decide) (by exact jD) (by exact (gf hc22).symm)))
  intro hc22
  exact id (op_fieldAddr (s := 6) Try.underlying33 rfl rfl Try.sizeOf29 (f1.trans rfl) (kN0 (i := 8) hM (by decide) (by exact jD) (by exact (gt hc22).symm)))
 ·rintro D ρo wo nD eD cD jD aD ⟨f15, f14, _⟩
  refine go_lz 14 rfl (gA_t f14) ?_ (fun hc23 => (kN0 (i := 9) hM (by decide) (by exact jD) (by exact (gf hc23).symm)))
  intro hc23
  exact id (op_fieldAddr (s := 0) Try.underlying29 rfl rfl Try.sizeOf2 (f15.trans (gt hc23)) (kN0 (i := 9) hM (by decide) (by exact jD) (by exact (gt hc23).symm)))
 ·rintro D ρo wo nD eD cD jD aD ⟨f16, f14, _⟩
  refine go_lz 14 rfl (gA_t f14) ?_ (fun hc24 => (kN0 (i := 10) hM (by decide) (by exact jD) (by exact (gf hc24).symm)))
  intro hc24
  have hst := jD.2 
  exact id (op_load1 (u := (iV u.Agg.From)) Try.isAgg2 (f16.trans (gt hc24)) ((hst.cell 0 rfl).drop 3) (kN0 (i := 10) hM (by decide) (by exact jD) (by exact (gt hc24).symm)))
 ·rintro D ρo wo nD eD cD jD aD ⟨f1, f14, _⟩
  refine go_lz 14 rfl (gA_t f14) ?_ (fun hc25 => (kN0 (i := 11) hM (by decide) (by exact jD) (by exact (gf hc25).symm)))
  intro hc25
  exact id (op_fieldAddr (s := 6) Try.underlying33 rfl rfl Try.sizeOf29 (f1.trans rfl) (kN0 (i := 11) hM (by decide) (by exact jD) (by exact (gt hc25).symm)))
 ·rintro D ρo wo nD eD cD jD aD ⟨f18, f14, _⟩
  refine go_lz 14 rfl (gA_t f14) ?_ (fun hc26 => (kN0 (i := 12) hM (by decide) (by exact jD) (by exact (gf hc26).symm)))
  intro hc26
  exact id (op_fieldAddr (s := 0) Try.underlying29 rfl rfl Try.sizeOf2 (f18.trans (gt hc26)) (kN0 (i := 12) hM (by decide) (by exact jD) (by exact (gt hc26).symm)))
 ·rintro D ρo wo nD eD cD jD aD ⟨f19, f14, _⟩
  refine go_lz 14 rfl (gA_t f14) ?_ (fun hc27 => (kN0 (i := 13) hM (by decide) (by exact jD) (by exact (gf hc27).symm)))
  intro hc27
  have hst := jD.2 
  exact id (op_load1 (u := (iV u.Agg.From)) Try.isAgg2 (f19.trans (gt hc27)) ((hst.cell 0 rfl).drop 3) (kN0 (i := 13) hM (by decide) (by exact jD) (by exact (gt hc27).symm)))
 ·rintro D ρo wo nD eD cD jD aD ⟨f1, f14, _⟩
  refine go_lz 14 rfl (gA_t f14) ?_ (fun hc28 => (kN0 (i := 14) hM (by decide) (by exact jD) (by exact (gf hc28).symm)))
  intro hc28
  exact id (op_fieldAddr (s := 0) Try.underlying33 rfl rfl Try.sizeOf3 (f1.trans rfl) (kN0 (i := 14) hM (by decide) (by exact jD) (by exact (gt hc28).symm)))
 ·rintro D ρo wo nD eD cD jD aD ⟨f21, f14, _⟩
  refine go_lz 14 rfl (gA_t f14) ?_ (fun hc29 => (kN0 (i := 15) hM (by decide) (by exact jD) (by exact (gf hc29).symm)))
  intro hc29
  have hst := jD.2 
  exact id (op_load1 (u := (iV u.Tier)) Try.isAgg3 (f21.trans (gt hc29)) (hst.cell 0 rfl) (kN0 (i := 15) hM (by decide) (by exact jD) (by exact (gt hc29).symm)))
 ·rintro D ρo wo nD eD cD jD aD ⟨f20, f22, f14, _⟩
  refine go_lz 14 rfl (gA_t f14) ?_ (fun hc30 => (kN0 (i := 16) hM (by decide) (by exact jD) (by exact (gf hc30).symm)))
  intro hc30
  have c31 : 0 < (widthA u.Tier) := of_decide_eq_true (and_l (hg6.symm.trans hc30))
  have c32 : (mayA u.Agg) = true := (and_r (hg6.symm.trans hc30))
  have hmp := mayA_true c32
  simp only [mayP] at hmp
  refine id (op_call Try.call42 (evs_cons (v := (iV u.Agg.From)) (f20.trans (gt hc30)) (evs_cons (v := (iV u.Tier)) (f22.trans (gt hc30)) evs_nil)) (c_Floor (w0 := wo) (t := u.Agg.From) (k := u.Tier) (t0 := (by omega)) (k0 := (by omega)) (t1 := (by omega)) (k1 := (by omega))) ?_)
  rintro _ w33 ⟨rfl, hcall⟩
  refine ⟨_, rfl, ?_⟩
  exact kN (i := 16) hM (by decide) hcall.below (by exact ⟨(jD.1).ext hcall.below, (jD.2).ext hcall.below⟩) (by exact (gt hc30).symm)
 ·rintro D ρo wo nD eD cD jD aD ⟨f17, f23, f14, _⟩
  refine go_lz 14 rfl (gA_t f14) ?_ (fun hc34 => (kN0 (i := 17) hM (by decide) (by exact jD) (by exact (gf hc34).symm)))
  intro hc34
  exact id (op_eql (k := .i64) (a := u.Agg.From) (b := (floorA u.Agg.From u.Tier)) (f17.trans (gt hc34)) (f23.trans (gt hc34)) (kN0 (i := 17) hM (by decide) (by exact jD) (by exact (gt hc34).symm)))
 ·rintro D ρo wo nD eD cD jD aD ⟨f14, f24, _⟩
  refine go_plain (op_pick_and f14 f24 (fun hp => hp) rfl ?_)
  exact (kN0 (i := 18) hM (by decide) (by exact jD) (by exact (congrArg Value.bool hg9.symm)))
 ·rintro D ρo wo nD eD cD jD aD ⟨f25, _⟩
  exact go_plain (op_move (.bool g8) f25 (kN0 (i := 19) hM (by decide) (by exact jD) (by exact rfl)))
 ·rintro D ρo wo nD eD cD jD aD ⟨f1, f26, _⟩
  refine go_lz 26 rfl (gA_t f26) ?_ (fun hc35 => (kN0 (i := 20) hM (by decide) (by exact jD) (by exact (gf hc35).symm)))
  intro hc35
  exact id (op_fieldAddr (s := 0) Try.underlying33 rfl rfl Try.sizeOf2 (f1.trans rfl) (kN0 (i := 20) hM (by decide) (by exact jD) (by exact (gt hc35).symm)))
 ·rintro D ρo wo nD eD cD jD aD ⟨f27, f26, _⟩
  refine go_lz 26 rfl (gA_t f26) ?_ (fun hc36 => (kN0 (i := 21) hM (by decide) (by exact jD) (by exact (gf hc36).symm)))
  intro hc36
  have hst := jD.2 
  exact id (op_load1 (u := (iV u.Lo)) Try.isAgg2 (f27.trans (gt hc36)) ((hst.cell 0 rfl).drop 1) (kN0 (i := 21) hM (by decide) (by exact jD) (by exact (gt hc36).symm)))
 ·rintro D ρo wo nD eD cD jD aD ⟨f1, f26, _⟩
  refine go_lz 26 rfl (gA_t f26) ?_ (fun hc37 => (kN0 (i := 22) hM (by decide) (by exact jD) (by exact (gf hc37).symm)))
  intro hc37
  exact id (op_fieldAddr (s := 6) Try.underlying33 rfl rfl Try.sizeOf29 (f1.trans rfl) (kN0 (i := 22) hM (by decide) (by exact jD) (by exact (gt hc37).symm)))
 ·rintro D ρo wo nD eD cD jD aD ⟨f29, f26, _⟩
  refine go_lz 26 rfl (gA_t f26) ?_ (fun hc38 => (kN0 (i := 23) hM (by decide) (by exact jD) (by exact (gf hc38).symm)))
  intro hc38
  exact id (op_fieldAddr (s := 0) Try.underlying29 rfl rfl Try.sizeOf2 (f29.trans (gt hc38)) (kN0 (i := 23) hM (by decide) (by exact jD) (by exact (gt hc38).symm)))
 ·rintro D ρo wo nD eD cD jD aD ⟨f30, f26, _⟩
  refine go_lz 26 rfl (gA_t f26) ?_ (fun hc39 => (kN0 (i := 24) hM (by decide) (by exact jD) (by exact (gf hc39).symm)))
  intro hc39
  have hst := jD.2 
  exact id (op_load1 (u := (iV u.Agg.From)) Try.isAgg2 (f30.trans (gt hc39)) ((hst.cell 0 rfl).drop 3) (kN0 (i := 24) hM (by decide) (by exact jD) (by exact (gt hc39).symm)))
 ·rintro D ρo wo nD eD cD jD aD ⟨f28, f31, f26, _⟩
  refine go_lz 26 rfl (gA_t f26) ?_ (fun hc40 => (kN0 (i := 25) hM (by decide) (by exact jD) (by exact (gf hc40).symm)))
  intro hc40
  exact id (op_geq (k := .i64) (a := u.Lo) (b := u.Agg.From) (f28.trans (gt hc40)) (f31.trans (gt hc40)) (kN0 (i := 25) hM (by decide) (by exact jD) (by exact (gt hc40).symm)))
 ·rintro D ρo wo nD eD cD jD aD ⟨f26, f32, _⟩
  refine go_plain (op_pick_and f26 f32 (fun hp => hp) rfl ?_)
  exact (kN0 (i := 26) hM (by decide) (by exact jD) (by exact (congrArg Value.bool hg11.symm)))
 ·rintro D ρo wo nD eD cD jD aD ⟨f33, _⟩
  exact go_plain (op_move (.bool g10) f33 (kN0 (i := 27) hM (by decide) (by exact jD) (by exact rfl)))
 ·rintro D ρo wo nD eD cD jD aD ⟨f1, f34, _⟩
  refine go_lz 34 rfl (gA_t f34) ?_ (fun hc41 => (kN0 (i := 28) hM (by decide) (by exact jD) (by exact (gf hc41).symm)))
  intro hc41
  exact id (op_fieldAddr (s := 0) Try.underlying33 rfl rfl Try.sizeOf2 (f1.trans rfl) (kN0 (i := 28) hM (by decide) (by exact jD) (by exact (gt hc41).symm)))
 ·rintro D ρo wo nD eD cD jD aD ⟨f35, f34, _⟩
  refine go_lz 34 rfl (gA_t f34) ?_ (fun hc42 => (kN0 (i := 29) hM (by decide) (by exact jD) (by exact (gf hc42).symm)))
  intro hc42
  have hst := jD.2 
  exact id (op_load1 (u := (iV u.Lo)) Try.isAgg2 (f35.trans (gt hc42)) ((hst.cell 0 rfl).drop 1) (kN0 (i := 29) hM (by decide) (by exact jD) (by exact (gt hc42).symm)))
 ·rintro D ρo wo nD eD cD jD aD ⟨f1, f34, _⟩
  refine go_lz 34 rfl (gA_t f34) ?_ (fun hc43 => (kN0 (i := 30) hM (by decide) (by exact jD) (by exact (gf hc43).symm)))
  intro hc43
  exact id (op_fieldAddr (s := 0) Try.underlying33 rfl rfl Try.sizeOf2 (f1.trans rfl) (kN0 (i := 30) hM (by decide) (by exact jD) (by exact (gt hc43).symm)))
 ·rintro D ρo wo nD eD cD jD aD ⟨f37, f34, _⟩
  refine go_lz 34 rfl (gA_t f34) ?_ (fun hc44 => (kN0 (i := 31) hM (by decide) (by exact jD) (by exact (gf hc44).symm)))
  intro hc44
  have hst := jD.2 
  exact id (op_load1 (u := (iV u.Hi)) Try.isAgg2 (f37.trans (gt hc44)) ((hst.cell 0 rfl).drop 2) (kN0 (i := 31) hM (by decide) (by exact jD) (by exact (gt hc44).symm)))
 ·rintro D ρo wo nD eD cD jD aD ⟨f36, f38, f34, _⟩
  refine go_lz 34 rfl (gA_t f34) ?_ (fun hc45 => (kN0 (i := 32) hM (by decide) (by exact jD) (by exact (gf hc45).symm)))
  intro hc45
  exact id (op_lss (k := .i64) (a := u.Lo) (b := u.Hi) (f36.trans (gt hc45)) (f38.trans (gt hc45)) (kN0 (i := 32) hM (by decide) (by exact jD) (by exact (gt hc45).symm)))
 ·rintro D ρo wo nD eD cD jD aD ⟨f34, f39, _⟩
  refine go_plain (op_pick_and f34 f39 (fun hp => hp) rfl ?_)
  exact (kN0 (i := 33) hM (by decide) (by exact jD) (by exact (congrArg Value.bool hg13.symm)))
 ·rintro D ρo wo nD eD cD jD aD ⟨f40, _⟩
  exact go_plain (op_move (.bool g12) f40 (kN0 (i := 34) hM (by decide) (by exact jD) (by exact rfl)))
 ·rintro D ρo wo nD eD cD jD aD ⟨f1, f41, _⟩
  refine go_lz 41 rfl (gA_t f41) ?_ (fun hc46 => (kN0 (i := 35) hM (by decide) (by exact jD) (by exact (gf hc46).symm)))
  intro hc46
  exact id (op_fieldAddr (s := 0) Try.underlying33 rfl rfl Try.sizeOf2 (f1.trans rfl) (kN0 (i := 35) hM (by decide) (by exact jD) (by exact (gt hc46).symm)))
 ·rintro D ρo wo nD eD cD jD aD ⟨f42, f41, _⟩
  refine go_lz 41 rfl (gA_t f41) ?_ (fun hc47 => (kN0 (i := 36) hM (by decide) (by exact jD) (by exact (gf hc47).symm)))
  intro hc47
  have hst := jD.2 
  exact id (op_load1 (u := (iV u.Hi)) Try.isAgg2 (f42.trans (gt hc47)) ((hst.cell 0 rfl).drop 2) (kN0 (i := 36) hM (by decide) (by exact jD) (by exact (gt hc47).symm)))
 ·rintro D ρo wo nD eD cD jD aD ⟨f1, f41, _⟩
  refine go_lz 41 rfl (gA_t f41) ?_ (fun hc48 => (kN0 (i := 37) hM (by decide) (by exact jD) (by exact (gf hc48).symm)))
  intro hc48
  exact id (op_fieldAddr (s := 6) Try.underlying33 rfl rfl Try.sizeOf29 (f1.trans rfl) (kN0 (i := 37) hM (by decide) (by exact jD) (by exact (gt hc48).symm)))
 ·rintro D ρo wo nD eD cD jD aD ⟨f44, f41, _⟩
  refine go_lz 41 rfl (gA_t f41) ?_ (fun hc49 => (kN0 (i := 38) hM (by decide) (by exact jD) (by exact (gf hc49).symm)))
  intro hc49
  exact id (op_fieldAddr (s := 0) Try.underlying29 rfl rfl Try.sizeOf2 (f44.trans (gt hc49)) (kN0 (i := 38) hM (by decide) (by exact jD) (by exact (gt hc49).symm)))
 ·rintro D ρo wo nD eD cD jD aD ⟨f45, f41, _⟩
  refine go_lz 41 rfl (gA_t f41) ?_ (fun hc50 => (kN0 (i := 39) hM (by decide) (by exact jD) (by exact (gf hc50).symm)))
  intro hc50
  have hst := jD.2 
  exact id (op_load1 (u := (iV u.Agg.From)) Try.isAgg2 (f45.trans (gt hc50)) ((hst.cell 0 rfl).drop 3) (kN0 (i := 39) hM (by decide) (by exact jD) (by exact (gt hc50).symm)))
 ·rintro D ρo wo nD eD cD jD aD ⟨f3, f41, _⟩
  refine go_lz 41 rfl (gA_t f41) ?_ (fun hc51 => (kN0 (i := 40) hM (by decide) (by exact jD) (by exact (gf hc51).symm)))
  intro hc51
  exact id (op_move (iV (widthA u.Tier)) (f3.trans rfl) (kN0 (i := 40) hM (by decide) (by exact jD) (by exact (gt hc51).symm)))
 ·rintro D ρo wo nD eD cD jD aD ⟨f46, f47, f41, _⟩
  refine go_lz 41 rfl (gA_t f41) ?_ (fun hc52 => (kN0 (i := 41) hM (by decide) (by exact jD) (by exact (gf hc52).symm)))
  intro hc52
  have c53 : 0 < (widthA u.Tier) := of_decide_eq_true (and_l (hg6.symm.trans (and_l (hg9.symm.trans (and_l (hg11.symm.trans (and_l (hg13.symm.trans hc52))))))))
  have c54 : (mayA u.Agg) = true := (and_r (hg6.symm.trans (and_l (hg9.symm.trans (and_l (hg11.symm.trans (and_l (hg13.symm.trans hc52))))))))
  have hmp := mayA_true c54
  simp only [mayP] at hmp
  have c55 : u.Agg.From = (floorA u.Agg.From u.Tier) := of_decide_eq_true (and_r (hg9.symm.trans (and_l (hg11.symm.trans (and_l (hg13.symm.trans hc52))))))
  have c56 : u.Agg.From ≤ u.Lo := of_decide_eq_true (and_r (hg11.symm.trans (and_l (hg13.symm.trans hc52))))
  have c57 : u.Lo < u.Hi := of_decide_eq_true (and_r (hg13.symm.trans hc52))
  exact id (op_add (k := .i64) (a := u.Agg.From) (b := (widthA u.Tier)) (u.Agg.From + (widthA u.Tier)) (f46.trans (gt hc52)) (f47.trans (gt hc52)) (xi64 (by omega) (by omega)) (kN0 (i := 41) hM (by decide) (by exact jD) (by exact (gt hc52).symm)))
 ·rintro D ρo wo nD eD cD jD aD ⟨f43, f48, f41, _⟩
  refine go_lz 41 rfl (gA_t f41) ?_ (fun hc58 => (kN0 (i := 42) hM (by decide) (by exact jD) (by exact (gf hc58).symm)))
  intro hc58
  exact id (op_leq (k := .i64) (a := u.Hi) (b := (u.Agg.From + (widthA u.Tier))) (f43.trans (gt hc58)) (f48.trans (gt hc58)) (kN0 (i := 42) hM (by decide) (by exact jD) (by exact (gt hc58).symm)))
 ·rintro D ρo wo nD eD cD jD aD ⟨f41, f49, _⟩
  refine go_plain (op_pick_and f41 f49 (fun hp => hp) rfl ?_)
  exact (kN0 (i := 43) hM (by decide) (by exact jD) (by exact (congrArg Value.bool hg15.symm)))
 ·rintro D ρo wo nD eD cD jD aD ⟨f50, _⟩
  exact go_plain (op_assign (.bool g14) f50 (kN0 (i := 44) hM (by decide) (by exact jD) (by exact rfl)))
 intro ρ59 w60 Dw60 hallw60 hJw60 hRw60 hkw60
 have hst : St w0 w60 [.blk g1 33 #[(iV u.Tier), (iV u.Lo), (iV u.Hi), (iV u.Agg.From), (iV u.Agg.Count), (iV u.Agg.Sum), (iV u.Agg.Min), (iV u.Agg.Max), (iV u.Agg.First), (iV u.Agg.Last)]] := hJw60.2 
 have uw60_2 : ρ59 2 = (.bool g14) := hRw60 44 2 rfl
 refine then_n (cE_ret (post_r _ (res1 (v := (.bool g14)) uw60_2) ?_))
 exact ⟨(retv1 (congrArg Value.bool (show g14 = (mayW u) from by (rw [hg15, hg13, hg11, hg9, hg6]; rfl)))), hst.bare⟩

set_option maxRecDepth 8000 in
set_option maxHeartbeats 4000000 in
theorem c_within (w0 : World) (v_l : Value) (l : List Sample) (h_l : Sl w0 sampE v_l l) (lo : Int) (up : Int) (hll : l.length ≤ 1000000) :
  Calls Try.prog 27 #[v_l, (iV lo), (iV up)] w0 fun e w' => ∃ (r : Value), e = .returned r ∧ St w0 w' [rowT 51 sampE r (l.filter (inT lo up))] := by
 refine calls_E (n := 32) (ts := [6]) Try.func27 rfl rfl rfl (by simp) ?_
 have hst := St.start w0
 refine cE_seq (cE_region rfl (s_cons (op_assign nS rfl (s_nil (then_n (cE_seq (cE_region rfl (s_cons (op_assign nS rfl (s_nil (then_n (cE_seq (cE_seq (cE_region rfl (s_cons (op_move v_l rfl (s_cons (op_len (E := sampE) (xs := l) Try.underlying23 rfl h_l (s_cons (op_move (iV 0) rfl (s_nil (then_n (cE_block ?_)))))))))))))))))))))))
 replace hst := hst.nilRow 51 sampE
 refine cE_loop (fun (m : Nat) (ρ : Env) (w : World) => ∃ (vo : Value) (ys : List Sample) (i : Nat), m = l.length - i ∧ ρ 0 = v_l ∧ ρ 1 = (iV lo) ∧ ρ 2 = (iV up) ∧ ρ 6 = nS ∧ ρ 10 = v_l ∧ ρ 11 = (iV (l.length : Int)) ∧ ρ 7 = vo ∧ ρ 12 = (iV (i : Int)) ∧ St w0 w [rowT 51 sampE vo ys] ∧ (i ≤ l.length) ∧ (ys = (l.take i).filter (inT lo up))) id _ ⟨nS, [], 0, rfl, rfl, rfl, rfl, rfl, rfl, rfl, rfl, (congrArg iV (show 0 = _ from by omega)), hst, (by omega), (by rfl)⟩ ?_
 rintro m62 ρ63 w64 ⟨vo, ys, i, hm62, q61_0, q61_1, q61_2, q61_6, q61_10, q61_11, q61_7, q61_12, hst, hi, hI⟩
 have hlen := h_l.len
 have hyl : ys.length ≤ i := by rw [hI]; have := filt_len (l.take i) (inT lo up); rw [List.length_take] at this; omega
 refine cE_seq (cE_region rfl (s_cons (op_lss (k := .i64) (a := (i : Int)) (b := (l.length : Int)) q61_12 q61_11 (s_nil (then_n (cE_seq ?_))))))
 rcases Bool.eq_false_or_eq_true (decide ((i : Int) < (l.length : Int))) with b65 | b65
 ·have c66 := of_decide_eq_true b65
  refine cE_cond true (congrArg Value.bool b65) (fun _ => ?_) (fun h => by cases h)
  refine cE_skip (then_n (cE_seq (cE_block (cE_seq (cE_region rfl (s_cons (op_indexAddrN (E := sampE) (xs := l) i Try.underlying23 Try.sizeOf51 q61_10 h_l q61_12 (by omega) (by omega) (fun a67 o68 p69 => ?_))))))))
  refine s_cons (op_loadN (cs := [(iV ((l[i]'(by omega)).T)), (iV ((l[i]'(by omega)).V))]) Try.isAgg51 Try.sizeOf51 rfl (Pt.of (p69.below hst.below) rfl) rfl (s_cons (op_alloc (cs := #[(iV 0), (iV 0)]) hst Try.zeroValue51 rfl (fun g70 w71 hst _ => ?_))))
  refine s_cons0 (op_storeAll hst 0 rfl Try.sizeOf51 rfl rfl rfl rfl (by simp [Value.oneCell']) (fun w72 hst => ?_))
  refine s_nil (then_n (cE_seq (cE_region rfl (s_cons (op_fieldAddr (s := 0) Try.underlying51 rfl rfl Try.sizeOf2 rfl (s_cons (op_load1 (u := (iV ((l[i]'(by omega)).T))) Try.isAgg2 rfl (hst.cell 0 rfl) (s_cons (op_move (iV lo) q61_1 (s_cons (op_geq (k := .i64) (a := (l[i]'(by omega)).T) (b := lo) rfl rfl (s_cons (op_move (.bool (decide (lo ≤ ((l[i]'(by omega)).T)))) rfl ?_)))))))))))))
  rcases Bool.eq_false_or_eq_true (decide (lo ≤ ((l[i]'(by omega)).T))) with b73 | b73
  ·have c74 := of_decide_eq_true b73
   refine s_yes 20 rfl (congrArg Value.bool b73) (op_fieldAddr (s := 0) Try.underlying51 rfl rfl Try.sizeOf2 rfl (s_yes 20 rfl (congrArg Value.bool b73) (op_load1 (u := (iV ((l[i]'(by omega)).T))) Try.isAgg2 rfl (hst.cell 0 rfl) (s_yes 20 rfl (congrArg Value.bool b73) (op_move (iV up) q61_2 (s_yes 20 rfl (congrArg Value.bool b73) (op_lss (k := .i64) (a := (l[i]'(by omega)).T) (b := up) rfl rfl ?_)))))))
   refine s_cons (op_pick_t (.bool (decide (((l[i]'(by omega)).T) < up))) (congrArg Value.bool b73) rfl (s_nil (then_n ?_)))
   rcases Bool.eq_false_or_eq_true (decide (((l[i]'(by omega)).T) < up)) with b75 | b75
   ·have c76 := of_decide_eq_true b75
    refine cE_cond true (congrArg Value.bool b75) (fun _ => ?_) (fun h => by cases h)
    refine cE_region rfl (s_cons (op_move vo q61_7 (s_cons (op_loadN (cs := [(iV ((l[i]'(by omega)).T)), (iV ((l[i]'(by omega)).V))]) Try.isAgg51 Try.sizeOf51 rfl (Pt.of (hst.cell 0 rfl) rfl) rfl (s_cons (op_buildSlice (E := sampE) [(l[i]'(by omega))] hst Try.underlying23 Try.sizeOf51 Try.zeroValue51 (evp_cons (v := (.agg #[(iV ((l[i]'(by omega)).T)), (iV ((l[i]'(by omega)).V))])) rfl evp_nil) (parts_cons rfl parts_nil) rfl (by decide) (fun v77 w78 hst => ?_)))))))
    refine s_cons (op_append (E := sampE) (xs := ys) (ys := [(l[i]'(by omega))]) (z := (.agg #[(iV 0), (iV 0)])) (bytes := 16) hst 2 rfl Try.underlying23 (by kernel_rfl) rfl rfl rfl (hst.sl 0 rfl) (by (simp; omega)) (by (simp; omega)) (fun v79 w80 hst => ?_))
    refine s_cons (op_assign v79 rfl (s_nil (block_n (then_n (cE_region rfl (s_cons (op_add (k := .i64) (a := (i : Int)) (b := 1) ((i : Int) + 1) q61_12 rfl (xi64 (by omega) (by omega)) (s_cons (op_move (iV ((i : Int) + 1)) rfl (s_nil (then_n ?_)))))))))))
    exact ⟨_, ⟨v79, (ys ++ ([(l[i]'(by omega))])), (i + 1), rfl, q61_0, q61_1, q61_2, q61_6, q61_10, q61_11, rfl, (congrArg iV (show ((i : Int) + 1) = _ from by omega)), (hst.sub (.cons _ (.cons _ (.cons_cons _ .slnil)))), (by omega), (by exact within_yes (by omega) hI (by omega))⟩, (by simp only [id]; omega)⟩
   have c81 := of_decide_eq_false b75
   refine cE_cond false (congrArg Value.bool b75) (fun h => by cases h) (fun _ => ?_)
   refine cE_skip (block_n (then_n (cE_region rfl (s_cons (op_add (k := .i64) (a := (i : Int)) (b := 1) ((i : Int) + 1) q61_12 rfl (xi64 (by omega) (by omega)) (s_cons (op_move (iV ((i : Int) + 1)) rfl (s_nil (then_n ?_)))))))))
   exact ⟨_, ⟨vo, ys, (i + 1), rfl, q61_0, q61_1, q61_2, q61_6, q61_10, q61_11, q61_7, (congrArg iV (show ((i : Int) + 1) = _ from by omega)), (hst.sub (.cons _ (.cons_cons _ .slnil))), (by omega), (by exact within_no (by omega) hI (by omega))⟩, (by simp only [id]; omega)⟩
  have c82 := of_decide_eq_false b73
  refine s_no 20 rfl (congrArg Value.bool b73) (s_no 20 rfl (congrArg Value.bool b73) (s_no 20 rfl (congrArg Value.bool b73) (s_no 20 rfl (congrArg Value.bool b73) (s_cons (op_pick_f (.bool false) (congrArg Value.bool b73) rfl (s_nil (then_n (cE_cond false rfl (fun h => by cases h) (fun _ => ?_)))))))))
  refine cE_skip (block_n (then_n (cE_region rfl (s_cons (op_add (k := .i64) (a := (i : Int)) (b := 1) ((i : Int) + 1) q61_12 rfl (xi64 (by omega) (by omega)) (s_cons (op_move (iV ((i : Int) + 1)) rfl (s_nil (then_n ?_)))))))))
  exact ⟨_, ⟨vo, ys, (i + 1), rfl, q61_0, q61_1, q61_2, q61_6, q61_10, q61_11, q61_7, (congrArg iV (show ((i : Int) + 1) = _ from by omega)), (hst.sub (.cons _ (.cons_cons _ .slnil))), (by omega), (by exact within_no (by omega) hI (by omega))⟩, (by simp only [id]; omega)⟩
 have c83 := of_decide_eq_false b65
 refine cE_cond false (congrArg Value.bool b65) (fun h => by cases h) (fun _ => ?_)
 refine cE_exit (then_x (then_x (block_hit (then_n (cE_seq (cE_region rfl (s_cons (op_move vo q61_7 (s_cons (op_assign vo rfl (s_nil (then_n (cE_ret (post_r _ (res1 (v := vo) rfl) ?_))))))))))))))
 have e84 : ys = (l.filter (inT lo up)) := by (rw [hI, List.take_of_length_le (by omega)])
 replace hst : St w0 w64 [rowT 51 sampE vo (l.filter (inT lo up))] := by rw [congrArg (fun l => rowT 51 sampE vo l) e84] at hst; exact hst
 exact ⟨vo, rfl, hst.sub (.cons_cons _ .slnil)⟩

end Go.Proofs.Ytldfnkhccaglmaa
