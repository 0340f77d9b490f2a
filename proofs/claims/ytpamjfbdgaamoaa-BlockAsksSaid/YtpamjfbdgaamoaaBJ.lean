/- The steps of the reader of aggregates, its answers by names. -/
import Derived.Test.YtpamjfbdgaamoaaBA
namespace Go.Proofs.Ytpamjfbdgaamoaa
theorem gnE {n : Int} {b : List UInt8} {p : Int} (h : n = (get b p).1) : 0 ≤ n ∧ n ≤ 18446744073709551615 := h ▸ get_nn b p
theorem CA_oneE {b : List UInt8} {k n at_ F : Int} {out : List Agg} {i : Nat} {p : Int} {bad : Bool} {N0 P1 N1 P2 N2 P3 : Int} {D0 D1 D2 : Bool} (h : CA b k n out i p bad at_) (hn : (i : Int) < n) (e0 : N0 = (get b p).1) (f0 : P1 = (get b p).2.1) (g0 : D0 = rbad bad b p) (e1 : N1 = (get b P1).1) (f1 : P2 = (get b P1).2.1) (g1 : D1 = rbad D0 b P1) (e2 : N2 = (get b P2).1) (f2 : P3 = (get b P2).2.1) (g2 : D2 = rbad D1 b P2) (hF : wr ((wr (wr (at_ + 1) + wr N0)) * widthA k) = F) (hc : wr (wr N1 + 1) = 1) :
    CA b k n (out ++ [⟨F, wr (wr N1 + 1), zag N2, zag N2, zag N2, zag N2, zag N2⟩]) (i + 1) P3 D2 (wr (wr (at_ + 1) + wr N0)) := by
  subst hF e0 f0 g0 e1 f1 g1 e2 f2 g2
  exact CA_one h hn hc
theorem CA_manyE {b : List UInt8} {k n at_ F : Int} {out : List Agg} {i : Nat} {p : Int} {bad : Bool} {N0 P1 N1 P2 N2 P3 N3 P4 N4 P5 N5 P6 N6 P7 : Int} {D0 D1 D2 D3 D4 D5 D6 : Bool} (h : CA b k n out i p bad at_) (hn : (i : Int) < n) (e0 : N0 = (get b p).1) (f0 : P1 = (get b p).2.1) (g0 : D0 = rbad bad b p) (e1 : N1 = (get b P1).1) (f1 : P2 = (get b P1).2.1) (g1 : D1 = rbad D0 b P1) (e2 : N2 = (get b P2).1) (f2 : P3 = (get b P2).2.1) (g2 : D2 = rbad D1 b P2) (e3 : N3 = (get b P3).1) (f3 : P4 = (get b P3).2.1) (g3 : D3 = rbad D2 b P3) (e4 : N4 = (get b P4).1) (f4 : P5 = (get b P4).2.1) (g4 : D4 = rbad D3 b P4) (e5 : N5 = (get b P5).1) (f5 : P6 = (get b P5).2.1) (g5 : D5 = rbad D4 b P5) (e6 : N6 = (get b P6).1) (f6 : P7 = (get b P6).2.1) (g6 : D6 = rbad D5 b P6) (hF : wr ((wr (wr (at_ + 1) + wr N0)) * widthA k) = F) (hc : ¬ wr (wr N1 + 1) = 1) :
    CA b k n (out ++ [⟨F, wr (wr N1 + 1), zag N4, zag N2, wr ((zag N2 % 18446744073709551616 + N3) % 18446744073709551616), wr ((zag N2 % 18446744073709551616 + N5) % 18446744073709551616), wr ((zag N2 % 18446744073709551616 + N6) % 18446744073709551616)⟩]) (i + 1) P7 D6 (wr (wr (at_ + 1) + wr N0)) := by
  subst hF e0 f0 g0 e1 f1 g1 e2 f2 g2 e3 f3 g3 e4 f4 g4 e5 f5 g5 e6 f6 g6
  exact CA_many h hn hc
end Go.Proofs.Ytpamjfbdgaamoaa
