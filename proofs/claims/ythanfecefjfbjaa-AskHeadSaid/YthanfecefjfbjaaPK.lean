/- Short names for what walks write often. -/
import Derived.Test.YthanfecefjfbjaaC
namespace Go.Proofs.Ythanfecefjfbjaa
abbrev iV (x : Int) : Value := .int .i64 x
abbrev nS : Value := .slice none 0 0
abbrev aggC (a : Agg) : List Value := [.int .i64 a.From, .int .i64 a.Count, .int .i64 a.Sum, .int .i64 a.Min, .int .i64 a.Max, .int .i64 a.First, .int .i64 a.Last]
abbrev aggA (a : Agg) : Array Value := #[.int .i64 a.From, .int .i64 a.Count, .int .i64 a.Sum, .int .i64 a.Min, .int .i64 a.Max, .int .i64 a.First, .int .i64 a.Last]
end Go.Proofs.Ythanfecefjfbjaa
