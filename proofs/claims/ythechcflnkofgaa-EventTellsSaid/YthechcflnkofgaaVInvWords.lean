/- words of the print, those that this seat's texts use (cut by a program of this session: shrink.py) -/
-- PRINTED BY print.sh 35421559b90ae4d0a3588c463048766b98c2df88dd9212a6774a882060cdf62d: not written by this session
import Derived.Test.YthechcflnkofgaaWInv
import Derived.Test.YthechcflnkofgaaVFootNe
namespace Go.Proofs.YthechcflnkofgaaW.PrintWords
open Go.RowKit
end Go.Proofs.YthechcflnkofgaaW.PrintWords
namespace Go.Proofs.YthechcflnkofgaaW.PrintLast
section
variable {ops : Array Oper} {a : Act} {o og : Oper} {g : Nat} {t : Tmp} {u : Bool}
end
end Go.Proofs.YthechcflnkofgaaW.PrintLast
