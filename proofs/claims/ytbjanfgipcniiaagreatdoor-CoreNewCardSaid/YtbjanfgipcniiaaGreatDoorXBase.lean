/- a policy as a row of cells -/
import Derived.Test.YtbjanfgipcniiaaGreatDoorRows
import Derived.Test.YtbjanfgipcniiaaGreatDoorSE
import Derived.Test.YtbjanfgipcniiaaGreatDoorSD
namespace Go.Proofs.YtbjanfgipcniiaaGreatDoor
open Go Go.RowKit Go.BigFrame Sx
set_option linter.unusedVariables false
set_option linter.unusedSimpArgs false

def polC (q : Nat → Int) (ka : Nat → Option Addr) (kn kc : Nat → Nat) : Array Value := #[.int .i64 (q 0), .int .i64 (q 1), .int .i64 (q 2), .int .i64 (q 3), .int .i64 (q 4), .slice (ka 0) (kn 0) (kc 0), .slice (ka 1) (kn 1) (kc 1), .slice (ka 2) (kn 2) (kc 2), .slice (ka 3) (kn 3) (kc 3), .int .i64 (q 9), .int .i64 (q 10), .int .i64 (q 11), .int .i64 (q 12), .int .i64 (q 13), .int .i64 (q 14), .int .i64 (q 15), .int .i64 (q 16), .int .i64 (q 17), .int .i64 (q 18), .int .i64 (q 19), .int .i64 (q 20), .int .i64 (q 21), .int .i64 (q 22), .int .i64 (q 23), .int .i64 (q 24), .int .i64 (q 25), .int .i64 (q 26), .int .i64 (q 27), .int .i64 (q 28), .int .i64 (q 29), .int .i64 (q 30), .int .i64 (q 31), .int .i64 (q 32), .int .i64 (q 33), .int .i64 (q 34), .int .i64 (q 35), .int .i64 (q 36), .int .i64 (q 37), .int .i64 (q 38), .int .i64 (q 39), .int .i64 (q 40), .int .i64 (q 41), .int .i64 (q 42), .int .i64 (q 43), .int .i64 (q 44), .int .i64 (q 45), .int .i64 (q 46), .int .i64 (q 47), .int .i64 (q 48), .int .i64 (q 49), .int .i64 (q 50), .int .i64 (q 51), .int .i64 (q 52), .int .i64 (q 53), .int .i64 (q 54), .int .i64 (q 55)]
end Go.Proofs.YtbjanfgipcniiaaGreatDoor
