/- Maps with numbers for keys, that the call made. Over any program. -/
import Derived.Test.YtbjanfgipcniiaaGreatDoorSK
import Derived.WideMake
namespace Sx
open Go Go.RowKit Go.BigFrame
set_option linter.unusedVariables false
set_option linter.unusedSimpArgs false
section
variable {P : Program} {ops : Array Oper} {rest : List Oper} {o : Oper} {a : Act} {w w0 : World} {ms : List Nat} {bs : List Blk} {Q : Exit → Act → World → Prop}
end
end Sx
