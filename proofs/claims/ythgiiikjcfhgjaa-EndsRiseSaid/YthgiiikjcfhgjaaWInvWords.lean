-- PRINTED BY print.sh 35421559b90ae4d0a3588c463048766b98c2df88dd9212a6774a882060cdf62d: not written by this session
import Derived.Test.YthgiiikjcfhgjaaWInv
import Derived.Test.YthgiiikjcfhgjaaWFootNe
namespace Go.Proofs.YthgiiikjcfhgjaaW.PrintWords
open Go.RowKit
end Go.Proofs.YthgiiikjcfhgjaaW.PrintWords
namespace Go.Proofs.YthgiiikjcfhgjaaW.PrintLast
section
variable {ops : Array Oper} {a : Act} {o og : Oper} {g : Nat} {t : Tmp} {u : Bool}
end
end Go.Proofs.YthgiiikjcfhgjaaW.PrintLast
