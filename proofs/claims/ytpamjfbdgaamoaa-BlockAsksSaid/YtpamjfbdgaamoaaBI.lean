/- The steps of the cursor over aggregates, its answers by names. -/
import Derived.Test.YtpamjfbdgaamoaaBA
namespace Go.Proofs.Ytpamjfbdgaamoaa
theorem joinQ {N : Int} {D : Bool} : ((decide (1099511627776 < N) || D) = true ∧ 1099511627776 < N) ∨ (decide (1099511627776 < N) || D) = D := by
  by_cases h : 1099511627776 < N
  · left; exact ⟨by simp [h], h⟩
  · right; simp [h]
/-- The window as the cursor reckons it. -/
def GW (k : Int) (out : List Agg) (i : Nat) (N X : Int) : Prop :=
  (i = 0 ∧ X = N) ∨ (0 < i ∧ ∃ hl : i - 1 < out.length, X = ((N + 1) % 18446744073709551616 + (out[i - 1]'hl).From % 18446744073709551616 / (widthA k % 18446744073709551616)) % 18446744073709551616)
theorem FW_of {k : Int} {out : List Agg} {i : Nat} {N X F : Int} (h : GW k out i N X) (hF : wr (X * (widthA k % 18446744073709551616) % 18446744073709551616) = F) : FW k out i N F := by
  rcases h with ⟨h0, rfl⟩ | ⟨h0, hl, rfl⟩
  · exact Or.inl ⟨h0, hF.symm⟩
  · exact Or.inr ⟨h0, hl, hF.symm⟩
theorem rnE {n : Int} {bad : Bool} {b : List UInt8} {p : Int} (h : n = rnum bad b p) : 0 ≤ n ∧ n ≤ 18446744073709551615 := h ▸ rnum_r bad b p
theorem RA_startE {b : List UInt8} {k p N P : Int} {bad D : Bool} (hp : p = 0) (hb : bad = false) (e : N = rnum bad b p) (f : P = rto bad b p) (g : D = rbad bad b p) : RA b k N [] 0 P D := by
  subst e f g; exact RA_start hp hb
theorem RA_start2E {b : List UInt8} {k p N P : Int} {bad x : Bool} (hp : p = 0) (hb : bad = false) (e : N = rnum bad b p) (f : P = rto bad b p) (h : 64 < N) : RA b k N [] 0 P x := by
  subst e f; exact RA_start2 hp hb h
theorem RA_oneE {b : List UInt8} {k n : Int} {out : List Agg} {i : Nat} {p : Int} {bad q : Bool} {F C m N0 P1 N1 P2 N2 P3 : Int} {D0 D1 D2 : Bool} (h : RA b k n out i p bad) (hn : (i : Int) < n) (e0 : N0 = rnum bad b p) (f0 : P1 = rto bad b p) (g0 : D0 = rbad bad b p) (e1 : N1 = rnum q b P1) (f1 : P2 = rto q b P1) (g1 : D1 = rbad q b P1) (e2 : N2 = rnum D1 b P2) (f2 : P3 = rto D1 b P2) (g2 : D2 = rbad D1 b P2) 
    (hq : (q = true ∧ 1099511627776 < N0) ∨ q = D0) (hF : FW k out i N0 F) (hC : C = N1 % 4611686018427387904 + 1) (em : m = zag N2) (h1 : ¬ 1 < C) : RA b k n (out ++ [⟨F, C, m, m, m, m, m⟩]) (i + 1) P3 D2 := by
  subst em e0 f0 g0 e1 f1 g1 e2 f2 g2
  exact RA_one h hn hq hF hC h1
theorem RA_manyE {b : List UInt8} {k n : Int} {out : List Agg} {i : Nat} {p : Int} {bad q : Bool} {F C m s N0 P1 N1 P2 N2 P3 N3 P4 N4 P5 N5 P6 N6 P7 : Int} {D0 D1 D2 D3 D4 D5 D6 : Bool} (h : RA b k n out i p bad) (hn : (i : Int) < n) (e0 : N0 = rnum bad b p) (f0 : P1 = rto bad b p) (g0 : D0 = rbad bad b p) (e1 : N1 = rnum q b P1) (f1 : P2 = rto q b P1) (g1 : D1 = rbad q b P1) (e2 : N2 = rnum D1 b P2) (f2 : P3 = rto D1 b P2) (g2 : D2 = rbad D1 b P2) (e3 : N3 = rnum D2 b P3) (f3 : P4 = rto D2 b P3) (g3 : D3 = rbad D2 b P3) (e4 : N4 = rnum D3 b P4) (f4 : P5 = rto D3 b P4) (g4 : D4 = rbad D3 b P4) (e5 : N5 = rnum D4 b P5) (f5 : P6 = rto D4 b P5) (g5 : D5 = rbad D4 b P5) (e6 : N6 = rnum D5 b P6) (f6 : P7 = rto D5 b P6) (g6 : D6 = rbad D5 b P6) 
    (hq : (q = true ∧ 1099511627776 < N0) ∨ q = D0) (hF : FW k out i N0 F) (hC : C = N1 % 4611686018427387904 + 1) (em : m = zag N2) (es : s = zag N4) (h1 : 1 < C) : RA b k n (out ++ [⟨F, C, s, m, (wr ((m % 18446744073709551616 + N3) % 18446744073709551616)), (wr ((m % 18446744073709551616 + N5) % 18446744073709551616)), (wr ((m % 18446744073709551616 + N6) % 18446744073709551616))⟩]) (i + 1) P7 D6 := by
  subst em es e0 f0 g0 e1 f1 g1 e2 f2 g2 e3 f3 g3 e4 f4 g4 e5 f5 g5 e6 f6 g6
  exact RA_many h hn hq hF hC h1
end Go.Proofs.Ytpamjfbdgaamoaa
